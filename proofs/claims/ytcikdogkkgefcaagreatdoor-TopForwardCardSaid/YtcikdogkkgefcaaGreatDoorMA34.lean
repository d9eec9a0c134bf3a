/- world.device. A world's parties, one by one; world.send, world.rekey. world.rekey, Session, betray. world.betray. world.open. -/
import Derived.Test.YtcikdogkkgefcaaGreatDoorMA33
namespace Go.Proofs.YtcikdogkkgefcaaGreatDoor
set_option maxRecDepth 8000
set_option maxHeartbeats 16000000
set_option linter.unusedVariables false
set_option linter.unusedSimpArgs false
open Go Go.RowKit
theorem zJq {lim:Nat}{L:List Nd}(g:Good lim L){n:Nd}(hk:n.k≠0)(h:(mk lim L n).2.2=0):1≤(mk lim L n).2.1:=by
 have h1:=zKm h;have h2:=zAV.1 h1.1;have h3:=(zDd g n).wf.zero;by_cases h4:(mk lim L n).2.1=0
 · rw[h4,h3]at h1
   exact absurd (congrArg Nd.k h1.2).symm hk
 · omega
theorem zNS {a x y:Int}(hx:1≤x)(h:zCO a 1 y=0):zCO a x y=0:=by
 unfold zCO at h ⊢;split at h
 · exact absurd h (by decide)
 · rename_i hc
   rw[if_neg (by intro hc2;apply hc;rcases hc2 with h|h|h|h<;>first|exact .inl h|omega|exact .inr (.inr (.inl h))|exact .inr (.inr (.inr h)))]
structure DsGo (ds ds':List DevH)(devs':List Dv):Prop where
 devs:ds'.map (·.d)=devs'
 mem:∀{db:Nat} {id:Int},(∃y∈ds,y.db=db∧y.d.id=id)→∃y∈ds',y.db=db∧y.d.id=id
section
variable {we w:World}{ρ:List (Nat × Obj)}{σ F:List HP}{wb:Nat}{f:Int}{H:Hd}{L:List Nd}{ds:List DevH}{o:WOp}{heard:List Int}{K:Int→Bool}
theorem zRs {x:Int}(hh:∀x,K x=true→has L x=true)(hl:heard.length≤100000){W:Wd}(hW1:W.L=L)(hW2:W.heard=heard)(hW3:W.K=K){kb p:Nat}(hS:St we ρ (KN kb p heard K::zAA p zAB L::F) w) :
 Cl Tryz.prog 82 [pP kb,pI x] w fun v w'=>v = pI (zAd W x).2∧St we ρ (KN kb p (zAd W x).1.heard (zAd W x).1.K::zAA p zAB L::F) w':=by
 subst hW1 hW2 hW3;refine(zNc (x:=x) hh hl hS).mono fun v w' h=>?_
 unfold zAd;cases hx:has W.L x
 · rw[hx]at h;exact h
 · rw[hx]at h;exact h
theorem zVx {d:Dv}{db pb kb:Nat}(h:St we ρ (Row db (dvL d pb kb) 208::zAC pb 8 d.peers::zAC kb 8 d.psks::Each devI ds::F) w):St we ρ (Each devI (ds++[⟨d,db,pb,kb⟩])::F) w:=by
 have h1:St we ρ (zAC pb 8 d.peers::zAC kb 8 d.psks::Row db (dvL d pb kb) 208::Each devI ds::F) w:=h.pk;have h2:=St.star.2 h1;have h3:St we ρ (Row db (dvL d pb kb) 208::HP.star (zAC pb 8 d.peers) (zAC kb 8 d.psks)::Each devI ds::F) w:=h2.take (.tail .head);exact zHq (f:=devI) (a:=⟨d,db,pb,kb⟩) (St.star.2 h3)
theorem zMn {parts:List Pt}{msgs:List (List Int)}{evs:List Evt}{W:Wd}(hW:W=⟨L,heard,K,f,ds.map (·.d),parts,msgs,evs⟩)
 (hh:∀x,K x=true→has L x=true) (hl:heard.length≤50000) (hdl:ds.length≤8) (hS:St we ρ (Row wb (wdL H f) 68::zAA H.p zAB L::KN H.kb H.p heard K::zAD H.stb 8 (kvD ds)::Each devI ds::F) w) :
 Cl Tryz.prog 44 [pP wb,opV o] w fun v w'=>v = .tuple #[pI (zBO W o).2.1,pI (zBO W o).2.2] ∧
  ∃ds',DsGo ds ds' (zBO W o).1.devs∧St we ρ (Row wb (wdL H (zBO W o).1.fresh) 68::zAA H.p zAB (zBO W o).1.L::KN H.kb H.p (zBO W o).1.heard (zBO W o).1.K::zAD H.stb 8 (kvD ds')::Each devI ds'::F) w':=by
 obtain⟨g,-⟩:=zA7 (hS.take (.tail .head));obtain⟨ua,ia,kG,ha⟩:=zIv we ρ H.stb ds o.a;have kN:∀{F w},St we ρ (Row wb (wdL H f) 68::zAA H.p zAB L::F) w→_:=fun hS=>zOJ hS
 have hp1:=zJq g (n:=⟨1,IntKind.u64.wrap (f+1),0,0,0⟩) (show(1:Int)≠0 by decide);have hk1:∀x,has L x=true→has (mk zAB L ⟨1,IntKind.u64.wrap (f+1),0,0,0⟩).1 x=true:=fun x h=>(zHk _ h).1
 subst hW;unfold zBO zAw Wd.dev;simp only[zJI];generalize IntKind.u64.wrap (f+1)=f2 at kN hp1 hk1;generalize mk zAB L ⟨1,f2,0,0,0⟩=q at kN hp1 hk1;obtain⟨L1,xx,e1⟩:=q;simp only at kN hp1 hk1 ⊢;have kM:∀{F w},St we ρ (zAA H.p zAB L1::F) w→_:=fun hS=>zB6 (n:=⟨2,0,xx,0,0⟩) hS
 have hk2:∀x,has L1 x=true→has (mk zAB L1 ⟨2,0,xx,0,0⟩).1 x=true:=fun x h=>(zHk _ h).1
 generalize mk zAB L1 ⟨2,0,xx,0,0⟩=q at kM hk2;obtain⟨L2,pp,e2⟩:=q;simp only at kM hk2 ⊢;have hn1:zCO o.a 1 o.b=0∨zCO o.a 1 o.b=1:=by unfold zCO;split<;>simp
 have kL:∀{F w},St we ρ (zAD H.stb 8 (kvD ds)::F) w→_:=fun hS=>zWR hS
 rw[show(kvD ds).length=ds.length from List.length_map _]at kL;refine Run.calls2 (n:=89) Tryz.func44 rfl rfl rfl ?_;repeat' first|apply Qs|apply Qr|apply Qn|refine Ql ?_|(refine Qx ?_;clear hS;intro b w1 hS)
 refine(Run.regionH_cut (fun _:Unit=>zAD H.stb 8 (kvD ds)::Row b (wopL o) 57::Row wb (wdL H f) 68::zAA H.p zAB L::KN H.kb H.p heard K::Each devI ds::F) (fun _=>[(0,pP wb),(3,pP b),(6,ua),(7,.bool ia)]) (show St we ρ (zAD H.stb 8 (kvD ds)::Row b (wopL o) 57::Row wb (wdL H f) 68::zAA H.p zAB L::KN H.kb H.p heard K::Each devI ds::F) _ from hS.pk) (List.Sublist.refl _) (by rfl) (by rfl) (by rfl) ?_ ?_)
 · clear hS
   intro w1 hS;refine RH.relist (listed':=bm 12 0) (by kernel_rfl) ?_;repeat' first|refine Yt 0 0 ?_|refine Yt 1 1 ?_|refine Yl 3 2 ?_|refine Yl 7 3 ?_|refine Yl 15 4 ?_|refine Yl 31 5 ?_|refine Yt 127 7 ?_|refine Yt 255 8 ?_|refine Yt 511 9 ?_|refine Yt 1023 10 ?_|refine Yt 2047 11 ?_|(refine Ov 77 (kG hS.tk) ?_;clear hS;intro w1 hS;refine Xh ?_)|refine Jo ?_|refine Za 63 6 ?_|(refine Yd 4095 ?_;exact⟨(),Sb,hS.pk⟩)
 clear hS kG;rintro - w1 hS;rcases ha with ⟨rfl,rfl,ha4⟩|⟨rfl,i,x,ha1,ha2,rfl,ha4⟩
 case inr =>
  rw[ha4];repeat' first|apply Qs|apply Qr|apply Qn|refine Ql ?_|refine Qt ?_
  refine Qw Tryz.func44 ?_;exact⟨rfl,ds,⟨rfl,id⟩,hS.pk⟩
 have hkf:zAM (kvD ds) o.a 0=none:=by
  rcases zHt ds o.a with ⟨i,x,h1,h2,h3,h4⟩|⟨h3,h4⟩
  · rw[ha4]at h4;exact absurd h4 (by simp)
  · exact h3
 rw[ha4];simp only[Option.isSome_none,Bool.false_eq_true,if_false];by_cases hn:zCO o.a 1 o.b≠0
 · rw[if_pos hn]
   repeat' first|(refine Qc 78 (c:=zEx hS) (k':=?_);clear hS;rintro v w1 (⟨hv,rfl,hS⟩|⟨hv,db,pb,kb,rfl,hS⟩)<;>first|exact absurd hv hn|skip)|apply Qs|apply Qr|(apply Rs<;>intro hc<;>try exact No)|apply Qn|refine Ql ?_|refine Qt ?_|refine Qf ?_|apply Qk
   refine Qw Tryz.func44 ?_;exact⟨rfl,ds,⟨rfl,id⟩,hS.pk⟩
 · rw[if_neg hn]
   have hn0:zCO o.a 1 o.b=0:=by omega
   have tok:True:=trivial;repeat' first|(have _:=tok;clear tok;refine Qc 78 (c:=zEx hS) (k':=?_);clear hS;rintro v w1 (⟨hv,rfl,hS⟩|⟨hv,db0,pb0,kb0,rfl,hS⟩)<;>first|exact absurd hv hn|skip)|(refine Qc 78 (c:=zEx hS) (k':=?_);clear hS;rintro v w1 (⟨hv,rfl,hS⟩|⟨hv,db,pb,kb,rfl,hS⟩))|(refine Qv 24 (kL hS.tk) ?_;clear hS;intro w1 hS)|(refine Qv 79 (kN hS.tk2) ?_;clear hS;intro w1 hS)|(refine Qv 80 (kM hS.tk) ?_;clear hS;intro w1 hS)|apply Qs|apply Qr|(apply Rs<;>intro hc<;>try exact No)|apply Qn|refine Ql ?_|refine Qt ?_|refine Qf ?_|apply Qk
   all_goals first
    | (have hc:(8:Int)≤ds.length:=by assumption
       rw[if_pos (show 8≤(ds.map (·.d)).length by rw[List.length_map];omega)];refine Qw Tryz.func44 ?_;exact⟨rfl,ds,⟨rfl,id⟩,hS.pk⟩)
    | (have hc:e1≠0:=by assumption
       have hc8:¬(8:Int)≤ds.length:=by assumption
       rw[if_neg (show ¬ 8≤(ds.map (·.d)).length by rw[List.length_map];omega),if_pos hc];refine Qw Tryz.func44 ?_;exact⟨rfl,ds,⟨rfl,id⟩,hS.pk⟩)
    | (have hc:e2≠0:=by assumption
       have hc1:¬e1≠0:=by assumption
       have hc8:¬(8:Int)≤ds.length:=by assumption
       rw[if_neg (show ¬ 8≤(ds.map (·.d)).length by rw[List.length_map];omega),if_neg hc1,if_pos hc];refine Qw Tryz.func44 ?_;exact⟨rfl,ds,⟨rfl,id⟩,hS.pk⟩)
    | (have hc:¬e1≠0:=by assumption
       have hv:zCO o.a xx o.b≠0:=by assumption
       exact absurd (zNS (hp1 (by omega)) hn0) hv)
    | skip
   have hc2:¬e2≠0:=by assumption
   have hc1:¬e1≠0:=by assumption
   have hc8:¬(8:Int)≤ds.length:=by assumption
   rw[if_neg (show ¬ 8≤(ds.map (·.d)).length by rw[List.length_map];omega),if_neg hc1,if_neg hc2];have kA:∀{F w},St we ρ (zAD H.stb 8 (kvD ds)::F) w→_:=fun hS=>zW5 (k:=o.a) (u:=db) (by rw[show(kvD ds).length=ds.length from List.length_map _];omega) hS
   have hka:kadd 8 (kvD ds) o.a db=(kvD (ds++[⟨⟨o.a,xx,o.b,[],[]⟩,db,pb,kb⟩]),0):=by
    unfold kadd;rw[hkf];simp only;unfold kput;rw[hkf];simp only;rw[if_neg (by rw[show(kvD ds).length=ds.length from List.length_map _];omega)];simp[kvD]
   rw[hka]at kA;have kLe:∀{F w},St we ρ (KN H.kb H.p heard K::zAA H.p zAB L2::F) w→_:=fun hS=>zRs (x:=pp) (W:=⟨L2,heard,K,f2,ds.map (·.d)++[⟨o.a,xx,o.b,[],[]⟩],parts,msgs,evs⟩) (fun x h=>hk2 x (hk1 x (hh x h))) (by show heard.length≤100000;omega) rfl rfl rfl hS
   have hdv:(zAd ⟨L2,heard,K,f2,ds.map (·.d)++[⟨o.a,xx,o.b,[],[]⟩],parts,msgs,evs⟩ pp).1.devs=ds.map (·.d)++[⟨o.a,xx,o.b,[],[]⟩]:=by unfold zAd;split<;>rfl
   have hfr:(zAd ⟨L2,heard,K,f2,ds.map (·.d)++[⟨o.a,xx,o.b,[],[]⟩],parts,msgs,evs⟩ pp).1.fresh=f2:=by unfold zAd;split<;>rfl
   have hLL:(zAd ⟨L2,heard,K,f2,ds.map (·.d)++[⟨o.a,xx,o.b,[],[]⟩],parts,msgs,evs⟩ pp).1.L=L2:=by unfold zAd;split<;>rfl
   generalize zAd ⟨L2,heard,K,f2,ds.map (·.d)++[⟨o.a,xx,o.b,[],[]⟩],parts,msgs,evs⟩ pp=lw at kLe hdv hfr hLL;rw[hdv,hfr,hLL];refine(Run.regionH_cut (fun _:Unit=>zAD H.stb 8 (kvD (ds++[⟨⟨o.a,xx,o.b,[],[]⟩,db,pb,kb⟩]))::Row b (wopL o) 57::Row wb (wdL H f2) 68::zAA H.p zAB L2::KN H.kb H.p heard K::Row db (dvL ⟨o.a,xx,o.b,[],[]⟩ pb kb) 208::zAC pb 8 []::zAC kb 8 []::Each devI ds::F) (fun _=>[(0,pP wb),(3,pP b),(12,pI pp)]) (show St we ρ (zAD H.stb 8 (kvD ds)::Row b (wopL o) 57::Row wb (wdL H f2) 68::zAA H.p zAB L2::KN H.kb H.p heard K::Row db (dvL ⟨o.a,xx,o.b,[],[]⟩ pb kb) 208::zAC pb 8 []::zAC kb 8 []::Each devI ds::F) _ from hS.pk) (.cons _ (List.Sublist.refl _)) (by rfl) (by rfl) (by rfl) ?_ ?_)
   · clear hS
     intro w1 hS;refine RH.relist (listed':=bm 8 0) (by kernel_rfl) ?_;repeat' first|refine Yt 0 0 ?_|refine Yt 1 1 ?_|refine Yl 3 2 ?_|refine Yl 7 3 ?_|refine Yl 15 4 ?_|refine Yl 31 5 ?_|refine Yt 63 6 ?_|(refine Ov 81 (kA hS.tk) ?_;clear hS;intro w1 hS;refine Xh ?_)|refine Jo ?_|refine Za 127 7 ?_|(refine Yd 255 ?_;exact⟨(),Sb,hS.pk⟩)
   clear hS;rintro - w1 hS;repeat' first|(refine Qv 82 (kLe hS.tk2) ?_;clear hS;intro w1 hS)|apply Qs|apply Qr|apply Qn|refine Ql ?_
   refine Qw Tryz.func44 ?_;have h5:=zVx (d:=⟨o.a,xx,o.b,[],[]⟩) (F:=Row wb (wdL H f2) 68::zAA H.p zAB L2::KN H.kb H.p lw.1.heard lw.1.K::zAD H.stb 8 (kvD (ds++[⟨⟨o.a,xx,o.b,[],[]⟩,db,pb,kb⟩]))::F) hS.pk;exact⟨rfl,ds++[⟨⟨o.a,xx,o.b,[],[]⟩,db,pb,kb⟩],⟨by rw[List.map_append];rfl,fun⟨y,h1,h2⟩=>⟨y,List.mem_append_left _ h1,h2⟩⟩,h5.pk⟩
end
def ptS (x:PtH)(s:Ss):PtH:=⟨⟨s,x.x.box,x.x.dev⟩,x.sb,x.bb,x.db,x.r,x.at_⟩
def ptB (x:PtH)(b:List Int):PtH:=⟨⟨x.x.s,b,x.x.dev⟩,x.sb,x.bb,x.db,x.r,x.at_⟩
theorem zCA {α β:Type}{g : α→List β}{y : α}:∀{l:List α} {i:Nat} {x : α},l[i]? = some x→g y=g x→(l.set i y).flatMap g=l.flatMap g
 | [],i,x,h,_=>by simp at h
 | z::l,0,x,h,e=>by
   obtain rfl:z=x:=by simpa using h
   show(y::l).flatMap g=(z::l).flatMap g;rw[List.flatMap_cons,List.flatMap_cons,e]
 | z::l,i+1,x,h,e=>by
   show(z::l.set i y).flatMap g=(z::l).flatMap g;rw[List.flatMap_cons,List.flatMap_cons,zCA (by simpa using h) e]
theorem zSL {l:List PtH}{spare:List Value}:∀{i:Nat} {x:PtH},l[i]? = some x→((l.flatMap ptyL++spare).drop (i*4)).take 4=ptyL x:=by
 intro i x h;obtain⟨hi,rfl⟩:=List.getElem?_eq_some_iff.1 h;have h1:(l.flatMap ptyL++spare).drop (i*4)=(l.drop i).flatMap ptyL++spare:=by
  clear h;induction l generalizing i with
  | nil=>simp at hi
  | cons y l ih =>
    cases i with
    | zero=>rfl
    | succ i =>
      have:=ih (i:=i) (by simpa using hi);rw[List.drop_succ_cons,← this,List.flatMap_cons,List.append_assoc,show(i+1)*4=4+i*4 by omega,← List.drop_drop];rfl
 rw[h1,List.drop_eq_getElem_cons hi,List.flatMap_cons,List.append_assoc];rfl
section
variable {we w:World}{ρ:List (Nat × Obj)}{σ F:List HP}{wb p:Nat}{f:Int}{H:Hd}{L:List Nd}{ps:List PtH}{ms:List (List Int × Value)}{o:WOp}{i:Nat}{x:PtH}{vp vm:Value}
theorem zGE (hx:ps[i]? = some x)(h:St we ρ (Vec 79 4 vp ps.length (ps.flatMap ptyL)::F) w) :
 ∃g cap cs,vp = .slice (some ⟨g,0,none⟩) ps.length cap∧(cs.drop (i*4)).take 4=ptyL x∧cs[i*4]? = some (pP x.sb)∧cs[i*4+1]? = some (pP x.bb) ∧
  (∀{ρ F w},St we ρ (Row g cs 79::F) w→St we ρ (Vec 79 4 vp ps.length (ps.flatMap ptyL)::F) w)∧St we ρ (Row g cs 79::F) w:=by
 obtain⟨hl,⟨rfl,h0,_,_⟩|⟨g,cap,spare,rfl,h1,h2,h3,hS⟩⟩:=zBP h
 · have:=(List.getElem?_eq_some_iff.1 hx).1;omega
 · have h4:=zSL (spare:=spare) hx
   have hg:∀j,j<4→(ps.flatMap ptyL++spare)[i*4+j]? = (ptyL x)[j]?:=by
    intro j hj;have h5:(((ps.flatMap ptyL++spare).drop (i*4)).take 4)[j]? = (ptyL x)[j]?:=by rw[h4]
    rwa [List.getElem?_take,if_pos hj,List.getElem?_drop]at h5
   exact⟨g,cap,ps.flatMap ptyL++spare,rfl,h4,hg 0 (by omega),hg 1 (by omega),fun h=>zBF h h1 h2 (by rw[List.length_append,hl,h3,← Nat.add_mul];congr 1;omega) (by rw[← hl];exact List.take_left),hS⟩
theorem zDA (hx:ps[i]? = some x)(h:St we ρ (Each (ptI p) ps::F) w):St we ρ (Row x.sb (sesL x.r x.x.s p x.db) 102::zDL x.bb 8 x.x.box::Each (ptI p) (ps.eraseIdx i)::F) w :=
 St.star.1 (zEw (f:=ptI p) hx h)
theorem zC9 {s:Ss}{b:List Int}(hx:ps[i]? = some x)(h:St we ρ (Row x.sb (sesL x.r s p x.db) 102::zDL x.bb 8 b::Each (ptI p) (ps.eraseIdx i)::F) w) :
 St we ρ (Each (ptI p) (ps.set i (ptB (ptS x s) b))::F) w :=
 zIu (f:=ptI p) (a:=ptB (ptS x s) b) (List.getElem?_eq_some_iff.1 hx).1 (St.star.2 h)
theorem zTd {v:Int}(hx:ps[i]? = some x)(hS:St we ρ (Each (ptI p) ps::F) w) :
 Cl Tryz.prog 92 [pP x.bb,pI v] w fun u w'=>u = .bool (decide (x.x.box.length<8))∧St we ρ (Each (ptI p) (ps.set i (ptB x (if x.x.box.length<8 then x.x.box++[v] else x.x.box)))::F) w' :=
 (zKp (F:=Row x.sb (sesL x.r x.x.s p x.db) 102::Each (ptI p) (ps.eraseIdx i)::F) ((zDA hx hS).picks (by focus((repeat(first|apply Picks.all|apply Picks.nil|(refine Picks.cons (by repeat(first|apply Take.head|apply Take.tail)) ?_)|apply Picks.drop));done)))).mono fun v w' h=>⟨h.1,zC9 (s:=x.x.s) hx (h.2.pk)⟩
theorem zRp (hx:ps[i]? = some x)(hS:St we ρ (Each (ptI p) ps::F) w) :
 Cl Tryz.prog 93 [pP x.bb] w fun u w'=>u = .tuple #[pI (x.x.box.headD 0),.bool (!x.x.box.isEmpty)]∧St we ρ (Each (ptI p) (ps.set i (ptB x x.x.box.tail))::F) w' :=
 (zJJ (F:=Row x.sb (sesL x.r x.x.s p x.db) 102::Each (ptI p) (ps.eraseIdx i)::F) ((zDA hx hS).picks (by focus((repeat(first|apply Picks.all|apply Picks.nil|(refine Picks.cons (by repeat(first|apply Take.head|apply Take.tail)) ?_)|apply Picks.drop));done)))).mono fun v w' h=>⟨h.1,zC9 (s:=x.x.s) hx (h.2.pk)⟩
theorem zWO (hx:ps[i]? = some x)(hS:St we ρ (Each (ptI p) ps::F) w) :
 Cl Tryz.prog 16 [pP x.sb] w fun u w'=>u = .agg (ntL x.x.s.note).toArray∧St we ρ (Each (ptI p) ps::F) w':=by
 refine(zEC (s:=x.x.s) (zDA hx hS)).mono fun v w' h=>⟨h.1,?_⟩
 have h1:=zC9 (s:=x.x.s) (b:=x.x.box) hx h.2;rwa [show ptB (ptS x x.x.s) x.x.box=x from rfl,zBQ hx]at h1
theorem zWE {send:Bool}(hx:ps[i]? = some x)(hr:ShR ρ x.r x.x.s.h)(hS:St we ρ (Each (ptI p) ps::zAA p zAB L::F) w) :
 Cl Tryz.prog 98 [pP x.sb,.bool send] w fun u w'=>u = pI (zAb zAB L x.x.s send).2.2 ∧
  St we ρ (Each (ptI p) (ps.set i (ptS x (zAb zAB L x.x.s send).2.1))::zAA p zAB (zAb zAB L x.x.s send).1::F) w' :=
 (zI9 (F:=zDL x.bb 8 x.x.box::Each (ptI p) (ps.eraseIdx i)::F) hr ((zDA hx hS).picks (by focus((repeat(first|apply Picks.all|apply Picks.nil|(refine Picks.cons (by repeat(first|apply Take.head|apply Take.tail)) ?_)|apply Picks.drop));done)))).mono fun v w' h=>⟨h.1,zC9 (s:=(zAb zAB L x.x.s send).2.1) (b:=x.x.box) hx (h.2.pk)⟩
theorem zQ9 {e pl wa wc:Int}(hx:ps[i]? = some x)(ho:ShOk x.x.s.h)(hr:ShR ρ x.r x.x.s.h)(hix:0≤x.x.s.index∧x.x.s.index≤100000)(hS:St we ρ (Each (ptI p) ps::zAA p zAB L::F) w) :
 Cl Tryz.prog 90 [pP x.sb,pI e,pI pl,lvV wa wc] w fun v w'=>∃mv,v = .tuple #[mv,pI (zAE zAB L x.x.s e pl wa wc).2.2.2] ∧
  St we ρ (Vec 3 1 mv (zAE zAB L x.x.s e pl wa wc).2.2.1.length ((zAE zAB L x.x.s e pl wa wc).2.2.1.flatMap intL)::Each (ptI p) (ps.set i (ptS x (zAE zAB L x.x.s e pl wa wc).2.1))::zAA p zAB (zAE zAB L x.x.s e pl wa wc).1::F) w' :=
 (zI8 (p:=p) (db:=x.db) (e:=e) (pl:=pl) (wa:=wa) (wc:=wc) (F:=zDL x.bb 8 x.x.box::Each (ptI p) (ps.eraseIdx i)::F) ho hr hix ((zDA hx hS).picks (by focus((repeat(first|apply Picks.all|apply Picks.nil|(refine Picks.cons (by repeat(first|apply Take.head|apply Take.tail)) ?_)|apply Picks.drop));done)))).mono fun v w' ⟨mv,h1,h2⟩=>⟨mv,h1,by
   have h3:=zC9 (s:=(zAE zAB L x.x.s e pl wa wc).2.1) (b:=x.x.box) hx (h2.picks (σ':=Row x.sb (sesL x.r (zAE zAB L x.x.s e pl wa wc).2.1 p x.db) 102::zDL x.bb 8 x.x.box::Each (ptI p) (ps.eraseIdx i)::Vec 3 1 mv (zAE zAB L x.x.s e pl wa wc).2.2.1.length ((zAE zAB L x.x.s e pl wa wc).2.2.1.flatMap intL)::zAA p zAB (zAE zAB L x.x.s e pl wa wc).1::F) (by focus((repeat(first|apply Picks.all|apply Picks.nil|(refine Picks.cons (by repeat(first|apply Take.head|apply Take.tail)) ?_)|apply Picks.drop));done)));exact h3.pk⟩
def zTF (n:Nat)(o:WOp)(x:PtH):Int:=if o.b<0∨(n:Int)≤o.b then 4 else if x.x.box.length<8 then 0 else 3
def zJB (n:Nat)(o:WOp)(x:PtH):List Int:=if o.b<0∨(n:Int)≤o.b then x.x.box else if x.x.box.length<8 then x.x.box++[o.b] else x.x.box
theorem zQj (hx:ps[o.a.toNat]? = some x)(ha:0≤o.a)(hS:St we ρ (Row wb (wdL H f) 68::Vec 79 4 H.vp ps.length (ps.flatMap ptyL)::Each (ptI H.p) ps::Vec 80 1 H.vm ms.length (ms.flatMap mgL)::F) w) :
 Cl Tryz.prog 49 [pP wb,opV o] w fun v w'=>v = .tuple #[pI 0,pI (zTF ms.length o x)] ∧
  St we ρ (Row wb (wdL H f) 68::Vec 79 4 H.vp ps.length (ps.flatMap ptyL)::Each (ptI H.p) (ps.set o.a.toNat (ptB x (zJB ms.length o x)))::Vec 80 1 H.vm ms.length (ms.flatMap mgL)::F) w':=by
 obtain⟨Hp,Hkb,Hstb,Hds,Hps,Hms,Hvp,Hvm,Hve⟩:=H;simp only at hS ⊢;obtain⟨g,capp,cs,rfl,hc4,hc0,hc1,hback,hS⟩:=zGE hx (hS.take (.tail .head));obtain⟨pkm,capm,rfl⟩:=zAG (hS.take (A:=Vec 80 1 Hvm ms.length (ms.flatMap mgL)) An);have hlt:=(List.getElem?_eq_some_iff.1 hx).1;have kP:∀{F w},St we ρ (Each (ptI Hp) ps::F) w→_:=fun hS=>zTd (v:=o.b) hx hS
 have hxx:ptB x x.x.box=x:=rfl;unfold zTF zJB;by_cases hb:o.b<0∨(ms.length:Int)≤o.b
 · rw[if_pos hb,if_pos hb,hxx,zBQ hx]
   refine Run.calls2 (n:=32) Tryz.func49 rfl rfl rfl ?_;repeat' first|apply Qs|apply Qr|apply Qn|refine Ql ?_|(refine Qx ?_;clear hS;intro b w1 hS)
   refine(Run.regionH_cut (fun _:Unit=>Row b (wopL o) 57::Row wb (wdL ⟨Hp,Hkb,Hstb,Hds,Hps,Hms,.slice (some ⟨g,0,none⟩) ps.length capp,.slice pkm ms.length capm,Hve⟩ f) 68::Row g cs 79::Each (ptI Hp) ps::Vec 80 1 (.slice pkm ms.length capm) ms.length (ms.flatMap mgL)::F) (fun _=>[(0,pP wb),(3,pP b),(18,.bool true)]) (show St we ρ (Row b (wopL o) 57::Row wb (wdL ⟨Hp,Hkb,Hstb,Hds,Hps,Hms,.slice (some ⟨g,0,none⟩) ps.length capp,.slice pkm ms.length capm,Hve⟩ f) 68::Row g cs 79::Each (ptI Hp) ps::Vec 80 1 (.slice pkm ms.length capm) ms.length (ms.flatMap mgL)::F) _ from hS.pk) (List.Sublist.refl _) (by rfl) (by rfl) (by rfl) ?_ ?_)
   · clear hS
     intro w1 hS;refine RH.relist (listed':=bm 13 0) (by kernel_rfl) ?_;repeat' first|(apply Rh<;>intro hc<;>try exact No)|refine Yl 0 0 ?_|refine Yl 1 1 ?_|refine Yt 3 2 ?_|refine Yt 7 3 ?_|refine Yz 15 4 ?_|refine Yn 15 4 ?_|refine Yu 15 4 ?_|refine Yz 31 5 ?_|refine Yn 31 5 ?_|refine Yu 31 5 ?_|refine Yy 63 6 ?_|refine Yn 63 6 ?_|refine Yu 63 6 ?_|refine Yy 127 7 ?_|refine Yn 127 7 ?_|refine Yu 127 7 ?_|refine Yz 255 8 ?_|refine Yn 255 8 ?_|refine Yu 255 8 ?_|refine Yz 511 9 ?_|refine Yn 511 9 ?_|refine Yu 511 9 ?_|refine Yy 1023 10 ?_|refine Yn 1023 10 ?_|refine Yu 1023 10 ?_|refine Yy 2047 11 ?_|refine Yn 2047 11 ?_|refine Yu 2047 11 ?_|refine Yt 4095 12 ?_|(refine Yd 8191 ?_;exact⟨(),Sb,hS.pk⟩)
   clear hS;rintro - w1 hS;repeat' first|apply Qs|apply Qr|apply Qn|refine Ql ?_|refine Qt ?_
   refine Qw Tryz.func49 ?_;exact⟨rfl,(hback (hS.take (A:=Row g cs 79) An)).picks (by focus((repeat(first|apply Picks.all|apply Picks.nil|(refine Picks.cons (by repeat(first|apply Take.head|apply Take.tail)) ?_)|apply Picks.drop));done))⟩
 · rw[if_neg hb,if_neg hb]
   by_cases hl:x.x.box.length<8;all_goals
    simp only[hl,if_true,if_false,decide_true,decide_false]at kP ⊢;refine Run.calls2 (n:=32) Tryz.func49 rfl rfl rfl ?_;repeat' first|apply Qs|apply Qr|apply Qn|refine Ql ?_|(refine Qx ?_;clear hS;intro b w1 hS)
    refine(Run.regionH_cut (fun _:Unit=>Row b (wopL o) 57::Row wb (wdL ⟨Hp,Hkb,Hstb,Hds,Hps,Hms,.slice (some ⟨g,0,none⟩) ps.length capp,.slice pkm ms.length capm,Hve⟩ f) 68::Row g cs 79::Each (ptI Hp) ps::Vec 80 1 (.slice pkm ms.length capm) ms.length (ms.flatMap mgL)::F) (fun _=>[(0,pP wb),(3,pP b),(18,.bool false)]) (show St we ρ (Row b (wopL o) 57::Row wb (wdL ⟨Hp,Hkb,Hstb,Hds,Hps,Hms,.slice (some ⟨g,0,none⟩) ps.length capp,.slice pkm ms.length capm,Hve⟩ f) 68::Row g cs 79::Each (ptI Hp) ps::Vec 80 1 (.slice pkm ms.length capm) ms.length (ms.flatMap mgL)::F) _ from hS.pk) (List.Sublist.refl _) (by rfl) (by rfl) (by rfl) ?_ ?_)
    · clear hS
      intro w1 hS;refine RH.relist (listed':=bm 13 0) (by kernel_rfl) ?_;repeat' first|(apply Rh<;>intro hc<;>try exact No)|refine Yl 0 0 ?_|refine Yl 1 1 ?_|refine Yt 3 2 ?_|refine Yt 7 3 ?_|refine Yz 15 4 ?_|refine Yn 15 4 ?_|refine Yu 15 4 ?_|refine Yz 31 5 ?_|refine Yn 31 5 ?_|refine Yu 31 5 ?_|refine Yy 63 6 ?_|refine Yn 63 6 ?_|refine Yu 63 6 ?_|refine Yy 127 7 ?_|refine Yn 127 7 ?_|refine Yu 127 7 ?_|refine Yz 255 8 ?_|refine Yn 255 8 ?_|refine Yu 255 8 ?_|refine Yz 511 9 ?_|refine Yn 511 9 ?_|refine Yu 511 9 ?_|refine Yy 1023 10 ?_|refine Yn 1023 10 ?_|refine Yu 1023 10 ?_|refine Yy 2047 11 ?_|refine Yn 2047 11 ?_|refine Yu 2047 11 ?_|refine Yt 4095 12 ?_|(refine Yd 8191 ?_;exact⟨(),Sb,hS.pk⟩)
    clear hS;rintro - w1 hS;repeat' first|apply Qs|refine Qf ?_|apply Qk
   · refine(Run.regionH_cut (fun _:Unit=>Each (ptI Hp) (ps.set o.a.toNat (ptB x (x.x.box++[o.b])))::Row wb (wdL ⟨Hp,Hkb,Hstb,Hds,Hps,Hms,.slice (some ⟨g,0,none⟩) ps.length capp,.slice pkm ms.length capm,Hve⟩ f) 68::Row g cs 79::Vec 80 1 (.slice pkm ms.length capm) ms.length (ms.flatMap mgL)::F) (fun _=>[(31,.bool false)]) (show St we ρ (Each (ptI Hp) ps::Row b (wopL o) 57::Row wb (wdL ⟨Hp,Hkb,Hstb,Hds,Hps,Hms,.slice (some ⟨g,0,none⟩) ps.length capp,.slice pkm ms.length capm,Hve⟩ f) 68::Row g cs 79::Vec 80 1 (.slice pkm ms.length capm) ms.length (ms.flatMap mgL)::F) _ from hS.pk) (.cons _ (List.Sublist.refl _)) (by rfl) (by rfl) (by rfl) ?_ ?_)
     · clear hS
       intro w1 hS;refine RH.relist (listed':=bm 13 0) (by kernel_rfl) ?_;repeat' first|refine Yt 0 0 ?_|refine Yt 1 1 ?_|refine Yl 3 2 ?_|refine Yl 7 3 ?_|refine Yl 15 4 ?_|refine Yl 31 5 ?_|(refine Yt 63 6 ?_ (h:=by first|exact Sx|exact Still.any))|refine Yl 127 7 ?_|refine Yl 255 8 ?_|refine Yl 511 9 ?_|refine Yl 1023 10 ?_|refine Yt 4095 12 ?_|(refine Ov 92 (kP hS.tk) ?_;clear hS;intro w1 hS;refine Xh ?_)|refine Jo ?_|refine Za 2047 11 ?_|(refine Yd 8191 ?_;exact⟨(),Sb,hS.pk⟩)
     clear hS;rintro - w1 hS;repeat' first|apply Qs|apply Qr|apply Qn|refine Ql ?_|refine Qf ?_|apply Qk
     refine Qw Tryz.func49 ?_;exact⟨rfl,(hback (hS.take (A:=Row g cs 79) An)).picks (by focus((repeat(first|apply Picks.all|apply Picks.nil|(refine Picks.cons (by repeat(first|apply Take.head|apply Take.tail)) ?_)|apply Picks.drop));done))⟩
   · rw[hxx,zBQ hx]at kP
     refine(Run.regionH_cut (fun _:Unit=>Each (ptI Hp) ps::Row wb (wdL ⟨Hp,Hkb,Hstb,Hds,Hps,Hms,.slice (some ⟨g,0,none⟩) ps.length capp,.slice pkm ms.length capm,Hve⟩ f) 68::Row g cs 79::Vec 80 1 (.slice pkm ms.length capm) ms.length (ms.flatMap mgL)::F) (fun _=>[(31,.bool true)]) (show St we ρ (Each (ptI Hp) ps::Row b (wopL o) 57::Row wb (wdL ⟨Hp,Hkb,Hstb,Hds,Hps,Hms,.slice (some ⟨g,0,none⟩) ps.length capp,.slice pkm ms.length capm,Hve⟩ f) 68::Row g cs 79::Vec 80 1 (.slice pkm ms.length capm) ms.length (ms.flatMap mgL)::F) _ from hS.pk) (.cons _ (List.Sublist.refl _)) (by rfl) (by rfl) (by rfl) ?_ ?_)
     · clear hS
       intro w1 hS;refine RH.relist (listed':=bm 13 0) (by kernel_rfl) ?_;repeat' first|refine Yt 0 0 ?_|refine Yt 1 1 ?_|refine Yl 3 2 ?_|refine Yl 7 3 ?_|refine Yl 15 4 ?_|refine Yl 31 5 ?_|(refine Yt 63 6 ?_ (h:=by first|exact Sx|exact Still.any))|refine Yl 127 7 ?_|refine Yl 255 8 ?_|refine Yl 511 9 ?_|refine Yl 1023 10 ?_|refine Yt 4095 12 ?_|(refine Ov 92 (kP hS.tk) ?_;clear hS;intro w1 hS;refine Xh ?_)|refine Jo ?_|refine Za 2047 11 ?_|(refine Yd 8191 ?_;exact⟨(),Sb,hS.pk⟩)
     clear hS;rintro - w1 hS;repeat' first|apply Qs|apply Qr|apply Qn|refine Ql ?_|refine Qt ?_
     refine Qw Tryz.func49 ?_;rw[hxx,zBQ hx];exact⟨rfl,(hback (hS.take (A:=Row g cs 79) An)).picks (by focus((repeat(first|apply Picks.all|apply Picks.nil|(refine Picks.cons (by repeat(first|apply Take.head|apply Take.tail)) ?_)|apply Picks.drop));done))⟩
end
section
variable {we w:World}{ρ:List (Nat × Obj)}{σ F:List HP}{wb p:Nat}{f:Int}{H:Hd}{L:List Nd}{ds:List DevH}{ps:List PtH}{ms:List (List Int × Value)}{o:WOp}{i:Nat}{x:PtH}{vp vm:Value}{heard:List Int}{K:Int→Bool}
def zBa (L:List Nd)(o:WOp)(x:PtH):List Nd × Ss × Int:=if o.b<0∨1<o.b then(L,x.x.s,1) else zAb zAB L x.x.s (decide (o.b=1))
theorem zJQ (hx:ps[o.a.toNat]? = some x)(ha:0≤o.a)(hr:ShR ρ x.r x.x.s.h)(hS:St we ρ (Row wb (wdL H f) 68::zAA H.p zAB L::Vec 79 4 H.vp ps.length (ps.flatMap ptyL)::Each (ptI H.p) ps::F) w) :
 Cl Tryz.prog 53 [pP wb,opV o] w fun v w'=>v = .tuple #[pI 0,pI (zBa L o x).2.2] ∧
  St we ρ (Row wb (wdL H f) 68::zAA H.p zAB (zBa L o x).1::Vec 79 4 H.vp ps.length (ps.flatMap ptyL)::Each (ptI H.p) (ps.set o.a.toNat (ptS x (zBa L o x).2.1))::F) w':=by
 obtain⟨Hp,Hkb,Hstb,Hds,Hps,Hms,Hvp,Hvm,Hve⟩:=H;simp only at hS ⊢;obtain⟨g,capp,cs,rfl,hc4,hc0,hc1,hback,hS⟩:=zGE hx (hS.take (A:=Vec 79 4 Hvp ps.length (ps.flatMap ptyL)) (.tail (.tail .head)));have hlt:=(List.getElem?_eq_some_iff.1 hx).1;have kR:∀{F w},St we ρ (Each (ptI Hp) ps::zAA Hp zAB L::F) w→_:=fun hS=>zWE (send:=decide (o.b=1)) hx hr hS
 have hxx:ptS x x.x.s=x:=rfl;unfold zBa;by_cases hb:o.b<0∨1<o.b
 · rw[if_pos hb,hxx,zBQ hx]
   refine Run.calls2 (n:=27) Tryz.func53 rfl rfl rfl ?_;repeat' first|apply Qs|apply Qr|(apply Rs<;>intro hc<;>try exact No)|apply Qn|refine Ql ?_|(refine Qx ?_;clear hS;intro b w1 hS)|refine Qy ?_|refine Qz ?_|refine Qt ?_
   all_goals
    refine Qw Tryz.func53 ?_;exact⟨rfl,(hback (hS.take (A:=Row g cs 79) An)).picks (by focus((repeat(first|apply Picks.all|apply Picks.nil|(refine Picks.cons (by repeat(first|apply Take.head|apply Take.tail)) ?_)|apply Picks.drop));done))⟩
 · rw[if_neg hb]
   generalize zAb zAB L x.x.s (decide (o.b=1))=z at kR;obtain⟨L2,s2,e2⟩:=z;simp only at kR ⊢;by_cases hb1:o.b=1;all_goals
    simp only[hb1,decide_true,decide_false]at kR;refine Run.calls2 (n:=27) Tryz.func53 rfl rfl rfl ?_;repeat' first|apply Qs|apply Qr|(apply Rs<;>intro hc<;>try exact No)|apply Qn|refine Ql ?_|(refine Qx ?_;clear hS;intro b w1 hS)|refine Qy ?_|refine Qf ?_|apply Qk
    refine(Run.regionH_cut (fun _:Unit=>Each (ptI Hp) (ps.set o.a.toNat (ptS x s2))::zAA Hp zAB L2::Row b (wopL o) 57::Row wb (wdL ⟨Hp,Hkb,Hstb,Hds,Hps,Hms,.slice (some ⟨g,0,none⟩) ps.length capp,Hvm,Hve⟩ f) 68::Row g cs 79::F) (fun _=>[(4,pI 0),(5,pI e2)]) (show St we ρ (Each (ptI Hp) ps::zAA Hp zAB L::Row b (wopL o) 57::Row wb (wdL ⟨Hp,Hkb,Hstb,Hds,Hps,Hms,.slice (some ⟨g,0,none⟩) ps.length capp,Hvm,Hve⟩ f) 68::Row g cs 79::F) _ from hS.pk) (.cons _ (.cons _ (List.Sublist.refl _))) (by rfl) (by rfl) (by rfl) ?_ ?_)
    · clear hS
      intro w1 hS;refine RH.relist (listed':=bm 15 0) (by kernel_rfl) ?_;repeat' first|(apply Rh<;>intro hc<;>try exact No)|refine Yt 0 0 ?_|refine Yt 1 1 ?_|refine Yl 3 2 ?_|refine Yl 7 3 ?_|refine Yl 15 4 ?_|refine Yl 31 5 ?_|(refine Yt 63 6 ?_ (h:=by first|exact Sx|exact Still.any))|refine Yl 127 7 ?_|refine Yl 255 8 ?_|refine Yl 511 9 ?_|refine Yl 1023 10 ?_|refine Yt 2047 11 ?_|refine Yt 8191 13 ?_|refine Yt 16383 14 ?_|(refine Ov 98 (kR hS) ?_;clear hS;intro w1 hS;refine Xh ?_)|refine Jo ?_|refine Za 4095 12 ?_|(refine Yd 32767 ?_;exact⟨(),Sb,hS.pk⟩)
    clear hS;rintro - w1 hS;refine Qw Tryz.func53 ?_;exact⟨rfl,(hback (hS.take (A:=Row g cs 79) An)).picks (by focus((repeat(first|apply Picks.all|apply Picks.nil|(refine Picks.cons (by repeat(first|apply Take.head|apply Take.tail)) ?_)|apply Picks.drop));done))⟩
theorem zKJ (h:St we ρ (Vec 79 4 vp ps.length (ps.flatMap ptyL)::F) w):∃pk cap,vp = .slice pk ps.length cap:=zAG h
def zEg (ps:List PtH)(n:Int):Value × Bool:=if n<0∨(ps.length:Int)≤n then(.pointer none,false) else match ps[n.toNat]? with|some x=>(pP x.sb,true)|none=>(.pointer none,false)
theorem zBt {n:Int}(hS:St we ρ (Row wb (wdL H f) 68::Vec 79 4 H.vp ps.length (ps.flatMap ptyL)::F) w) :
 Cl Tryz.prog 14 [pP wb,pI n] w fun v w'=>v = .tuple #[(zEg ps n).1,.bool (zEg ps n).2]∧St we ρ (Row wb (wdL H f) 68::Vec 79 4 H.vp ps.length (ps.flatMap ptyL)::F) w':=by
 obtain⟨Hp,Hkb,Hstb,Hds,Hps,Hms,Hvp,Hvm,Hve⟩:=H;simp only at hS ⊢;obtain⟨pk,capp,rfl⟩:=zKJ (hS.take (.tail .head));unfold zEg;by_cases hb:n<0∨(ps.length:Int)≤n
 · rw[if_pos hb]
   refine Run.calls2 (n:=25) Tryz.func14 rfl rfl rfl ?_;repeat' first|apply Qs|apply Qr|(apply Rs<;>intro hc<;>try exact No)|apply Qn|refine Ql ?_|refine Qy ?_|refine Qz ?_|refine Qt ?_
   all_goals
    refine Qw Tryz.func14 ?_;exact Xp
 · rw[if_neg hb]
   have hlt:n.toNat<ps.length:=by omega
   obtain⟨x,hx⟩:∃x,ps[n.toNat]? = some x:=⟨_,List.getElem?_eq_getElem hlt⟩
   obtain⟨g,capp2,cs,he,hc4,hc0,hc1,hback,hS⟩:=zGE hx (hS.take (.tail .head));simp only[Value.slice.injEq,true_and]at he;obtain⟨rfl,rfl⟩:=he;rw[hx];refine Run.calls2 (n:=25) Tryz.func14 rfl rfl rfl ?_;repeat' first|(refine Ql ?_ (h:=by apply Still.load;rfl;rfl;(exact Rd.any);exact hc0))|apply Qs|apply Qr|(apply Rs<;>intro hc<;>try exact No)|apply Qn|refine Ql ?_|refine Qy ?_|refine Qf ?_|apply Qk
   all_goals
    refine Qw Tryz.func14 ?_;exact⟨rfl,(hback (hS.take (A:=Row g cs 79) An)).picks (by focus((repeat(first|apply Picks.all|apply Picks.nil|(refine Picks.cons (by repeat(first|apply Take.head|apply Take.tail)) ?_)|apply Picks.drop));done))⟩
end
def fldB (P:Program)(t:TypeId)(i:Nat):Option (TypeId × Nat) :=
 match P.underlying t with
 | some (.struct fs)=>(fs[i]?).map fun f=>(f.type,f.offset)
 | _=>none
theorem Still.field {P:Program}{n:Nat}{e:Env}{S:World→Prop}{ty:TypeId}{x:Operand}{v:Value}{t ft:TypeId}{i off:Nat}{cs:Array Value}(hx:ev e x=some (.agg cs))(hf:fldB P t i=some (ft,off))(hg:aggB P ft=some false)(hv:cs[off]? = some v) :
 Still P n e S (.field t x i) ty v:=Still.mk fun a w ha _ d pos aft g=>by
 unfold fldB at hf;cases hu:P.underlying t with
 | none=>simp[hu]at hf
 | some dd =>
   cases dd<;>try(simp[hu]at hf;done)
   rename_i fs;simp only[hu,Option.map_eq_some_iff,Prod.mk.injEq]at hf;obtain⟨fd,h1,rfl,rfl⟩:=hf;simp[execOp,ha.ev hx,Instr.field,run_underlying hu,h1,asAgg,part,zDn hg,hv]
section
variable {we w:World}{ρ:List (Nat × Obj)}{σ F:List HP}{wb p:Nat}{f:Int}{H:Hd}{L:List Nd}{ds:List DevH}{ps:List PtH}{ms:List (List Int × Value)}{o:WOp}{i:Nat}{x:PtH}{vp vm:Value}{heard:List Int}{K:Int→Bool}
theorem zMo {msgs:List (List Int)}{evs:List Evt}{W:Wd}(hW:W=⟨L,heard,K,f,ds.map (·.d),ps.map (·.x),msgs,evs⟩)
 (hh:∀x,K x=true→has L x=true) (hl:heard.length≤50000) (hS:St we ρ (Row wb (wdL H f) 68::zAA H.p zAB L::KN H.kb H.p heard K::zAD H.stb 8 (kvD ds)::Each devI ds::Vec 79 4 H.vp ps.length (ps.flatMap ptyL)::Each (ptI H.p) ps::F) w) :
 Cl Tryz.prog 52 [pP wb,opV o] w fun v w'=>v = .tuple #[pI (zBq W o).2.1,pI (zBq W o).2.2] ∧
  St we ρ (Row wb (wdL H f) 68::zAA H.p zAB L::KN H.kb H.p (zBq W o).1.heard (zBq W o).1.K::zAD H.stb 8 (kvD ds)::Each devI ds::Vec 79 4 H.vp ps.length (ps.flatMap ptyL)::Each (ptI H.p) ps::F) w':=by
 obtain⟨ua,ia,kG,ha⟩:=zIv we ρ H.stb ds o.a;have kS:∀{F w},St we ρ (Row wb (wdL H f) 68::Vec 79 4 H.vp ps.length (ps.flatMap ptyL)::F) w→_:=fun hS=>zBt (n:=o.a) hS
 have kL:∀(y:Int) {F:List HP} {w:World},St we ρ (KN H.kb H.p heard K::zAA H.p zAB L::F) w→_:=fun y {F} {w} hS=>zRs (x:=y) (W:=W) hh (by omega) (by rw[hW]) (by rw[hW]) (by rw[hW]) hS
 have hdev:W.dev o.a=(ds.map (·.d)).find? (fun d=>decide (d.id=o.a)):=by rw[hW];rfl
 have hhas:W.has o.a=decide (0≤o.a∧o.a<ps.length):=by rw[hW];simp[Wd.has,Bool.decide_and]
 have hhe:W.heard=heard:=by rw[hW]
 have hKK:W.K=K:=by rw[hW]
 have hpart:∀x,ps[o.a.toNat]? = some x→W.part o.a=x.x:=by
  intro x hx;rw[hW];simp[Wd.part,List.getD_eq_getElem?_getD,hx]
 unfold zBq;refine Run.calls2 (n:=80) Tryz.func52 rfl rfl rfl ?_;repeat' first|apply Qs|apply Qr|apply Qn|refine Ql ?_|(refine Qx ?_;clear hS;intro b w1 hS)
 refine(Run.regionH_cut (fun _:Unit=>zAD H.stb 8 (kvD ds)::Row b (wopL o) 57::Row wb (wdL H f) 68::zAA H.p zAB L::KN H.kb H.p heard K::Each devI ds::Vec 79 4 H.vp ps.length (ps.flatMap ptyL)::Each (ptI H.p) ps::F) (fun _=>[(0,pP wb),(3,pP b),(6,ua),(7,.bool ia)]) (show St we ρ (zAD H.stb 8 (kvD ds)::Row b (wopL o) 57::Row wb (wdL H f) 68::zAA H.p zAB L::KN H.kb H.p heard K::Each devI ds::Vec 79 4 H.vp ps.length (ps.flatMap ptyL)::Each (ptI H.p) ps::F) _ from hS.pk) (List.Sublist.refl _) (by rfl) (by rfl) (by rfl) ?_ ?_)
 · clear hS
   intro w1 hS;refine RH.relist (listed':=bm 12 0) (by kernel_rfl) ?_;repeat' first|refine Yt 0 0 ?_|refine Yt 1 1 ?_|refine Yl 3 2 ?_|refine Yl 7 3 ?_|refine Yl 15 4 ?_|refine Yl 31 5 ?_|refine Yt 127 7 ?_|refine Yt 255 8 ?_|refine Yt 511 9 ?_|refine Yt 1023 10 ?_|refine Yt 2047 11 ?_|(refine Ov 77 (kG hS.tk) ?_;clear hS;intro w1 hS;refine Xh ?_)|refine Jo ?_|refine Za 63 6 ?_|(refine Yd 4095 ?_;exact⟨(),Sb,hS.pk⟩)
 clear hS kG;rintro - w1 hS;by_cases hc:o.c<0∨2<o.c
 · rw[if_pos hc]
   repeat' first|(refine Qv 14 (kS hS.tk2) ?_;clear hS;intro w1 hS)|apply Qs|apply Qr|(apply Rs<;>intro hc<;>try exact No)|apply Qn|refine Ql ?_|refine Qy ?_|refine Qz ?_|refine Qt ?_|apply Qb
   all_goals
    refine Qw Tryz.func52 ?_;rw[hhe,hKK];exact Xp
 rw[if_neg hc];by_cases hc1:o.c=1
 · by_cases hr:0≤o.a∧o.a<ps.length
   · obtain⟨x,hx⟩:∃x,ps[o.a.toNat]? = some x:=⟨_,List.getElem?_eq_getElem (by omega)⟩
     have hsa:zEg ps o.a=(pP x.sb,true):=by
      unfold zEg;rw[if_neg (by omega),hx]
     rw[hsa]at kS;rw[if_neg (by rw[hhas,decide_eq_true hr];simp[hc1])];have hX:zB0 W o=x.x.s.note.own:=by
      unfold zB0;rw[if_neg (by omega),if_pos hc1,hpart x hx]
     rw[hX];have kN:∀{F w},St we ρ (Each (ptI H.p) ps::F) w→_:=fun hS=>zWO hx hS
     generalize x.x.s.note=nt at kN;have kL1 := @kL nt.own;by_cases h0:nt.own=0;all_goals
      first|rw[if_pos h0]|rw[if_neg h0]
      repeat' first|(refine Qv 14 (kS hS.tk2) ?_;clear hS;intro w1 hS)|(refine Qv 16 (kN hS.tk) ?_;clear hS;intro w1 hS)|(refine Qv 82 (kL1 hS.tk2) ?_;clear hS;intro w1 hS)|(refine Ql ?_ (h:=by apply Still.field;rfl;rfl;rfl;rfl))|apply Qs|apply Qr|(apply Rs<;>intro hc<;>try exact No)|apply Qn|refine Ql ?_|refine Qy ?_|refine Qz ?_|refine Qt ?_|refine Qf ?_|apply Qk|apply Qb|apply Qi
      refine Qw Tryz.func52 ?_;first|rw[hhe,hKK]|skip
      exact Xp
   · have hsa:zEg ps o.a=(.pointer none,false):=by
      unfold zEg;rw[if_pos (by omega)]
     rw[hsa]at kS;rw[if_pos (by rw[hhas,decide_eq_false hr];simp[hc1])];repeat' first|(refine Qv 14 (kS hS.tk2) ?_;clear hS;intro w1 hS)|apply Qs|apply Qr|(apply Rs<;>intro hc<;>try exact No)|apply Qn|refine Ql ?_|refine Qy ?_|refine Qt ?_|refine Qf ?_|apply Qk|apply Qb
     all_goals
      refine Qw Tryz.func52 ?_;rw[hhe,hKK];exact Xp
 · rcases ha with ⟨rfl,rfl,ha4⟩|⟨rfl,i,y,ha1,ha2,rfl,ha4⟩
   · rw[if_pos (by rw[hdev,ha4];simp[hc1])]
     repeat' first|(refine Qv 14 (kS hS.tk2) ?_;clear hS;intro w1 hS)|apply Qs|apply Qr|(apply Rs<;>intro hc<;>try exact No)|apply Qn|refine Ql ?_|refine Qy ?_|refine Qz ?_|refine Qt ?_|refine Qf ?_|apply Qb
     all_goals
      refine Qw Tryz.func52 ?_;rw[hhe,hKK];exact Xp
   · rw[if_neg (by rw[hdev,ha4];simp[hc1])]
     have kSe:∀{F w},St we ρ (Each devI ds::F) w→_:=fun hS=>zUs ha1 hS
     have kPs:∀{F w},St we ρ (Each devI ds::F) w→_:=fun hS=>pskE (k:=o.b) ha1 hS
     by_cases hc0:o.c=0
     · have hX:zB0 W o=y.d.secret:=by
        unfold zB0;rw[if_pos hc0,hdev,ha4];rfl
       rw[hX];have kL1 := @kL y.d.secret;by_cases h0:y.d.secret=0;all_goals
        first|rw[if_pos h0]|rw[if_neg h0]
        repeat' first|(refine Qv 14 (kS hS.tk2) ?_;clear hS;intro w1 hS)|(refine Qv 96 (kSe hS.tk) ?_;clear hS;intro w1 hS)|(refine Qv 82 (kL1 hS.tk2) ?_;clear hS;intro w1 hS)|apply Qs|apply Qr|(apply Rs<;>intro hc<;>try exact No)|apply Qn|refine Ql ?_|refine Qy ?_|refine Qz ?_|refine Qt ?_|refine Qf ?_|apply Qk|apply Qb|apply Qi
        refine Qw Tryz.func52 ?_;first|rw[hhe,hKK]|skip
        exact Xp
     · have hX:zB0 W o=getV y.d.psks o.b:=by
        unfold zB0;rw[if_neg hc0,if_neg hc1,hdev,ha4];rfl
       rw[hX];generalize getV y.d.psks o.b=z at kPs;have kL1 := @kL z;by_cases h0:z=0;all_goals
        first|rw[if_pos h0]|rw[if_neg h0]
        repeat' first|(refine Qv 14 (kS hS.tk2) ?_;clear hS;intro w1 hS)|(refine Qv 97 (kPs hS.tk) ?_;clear hS;intro w1 hS)|(refine Qv 82 (kL1 hS.tk2) ?_;clear hS;intro w1 hS)|apply Qs|apply Qr|(apply Rs<;>intro hc<;>try exact No)|apply Qn|refine Ql ?_|refine Qy ?_|refine Qz ?_|refine Qt ?_|refine Qf ?_|apply Qk|apply Qb|apply Qi
        refine Qw Tryz.func52 ?_;first|rw[hhe,hKK]|skip
        exact Xp
end
theorem zJp:∀{l:List ByteArray} {p:Pat},(zL1 p l).2=0→(zL1 p l).1.name=p.name
 | [],p,_=>rfl
 | s::l,p,h=>by
   rw[zJo]at h ⊢;split at h
   · rename_i h1;exact absurd h h1
   · rename_i h1
     rw[if_neg h1];exact(zJp h).trans (zL2 (by simpa using h1))
theorem zNV {name:ByteArray}(h:(zCu name).2=0):(zCu name).1.name=name∧name.size≤20:=by
 unfold zCu at h ⊢;split at h
 · exact absurd h (by decide:¬(4:Int)=0)
 · rename_i h1
   rw[if_neg h1];have h2:¬ 20<name.size:=fun h=>h1 (.inr h)
   split at h
   · rename_i h3
     rw[if_pos h3];exact⟨rfl,by omega⟩
   · rename_i h3
     rw[if_neg h3];exact⟨zJp h,by omega⟩
theorem zGo {lim:Nat}{L:List Nd}{d:Dv}{p:Pat}{role peer pr:Int}(h:(zAX lim L d p role peer pr).2.2=0):ShOk (zAX lim L d p role peer pr).2.1.h∧(zAX lim L d p role peer pr).2.1.index=0:=by
 unfold zAX at h ⊢;split at h
 · exact absurd h (by decide:¬(4:Int)=0)
 · rename_i h1
   rw[if_neg h1];split at h
   · rename_i h2;exact absurd h h2.2
   · rename_i h2
     rw[if_neg h2];exact⟨(zON h).1,rfl⟩
theorem ShR.mono {ρ ρ':List (Nat × Obj)}{r:Rep}{h:Sh}(hr:ShR ρ r h)(hs:∀x ∈ ρ,x ∈ ρ'):ShR ρ' r h:=⟨hr.pat.mono hs,hr.psk.mono hs⟩
section
variable {we w:World}{ρ:List (Nat × Obj)}{σ F:List HP}{wb pa lim:Nat}{f:Int}{H:Hd}{L:List Nd}{ds:List DevH}{ps:List PtH}{o:WOp}{i:Nat}{x:DevH}{p:Pat}{pv:Value}{role peer pr:Int}
theorem zUr (hx:ds[i]? = some x)(hv:Vars we)(hs:p.name.size≤100)(hp:PatR ρ pv p)(hb:x.d.peers.length≤100000)(hS:St we ρ (zAA pa lim L::Each devI ds::F) w) :
 Cl Tryz.prog 88 [pP pa,pP x.db,pv,pI role,pI peer,pI pr] w fun v w' =>
  ((zAX lim L x.d p role peer pr).2.2≠0∧v = .tuple #[.pointer none,pI (zAX lim L x.d p role peer pr).2.2]∧St we ρ (zAA pa lim (zAX lim L x.d p role peer pr).1::Each devI ds::F) w') ∨
  ((zAX lim L x.d p role peer pr).2.2=0∧∃sb r ρ',v = .tuple #[pP sb,pI 0]∧Over we ρ ρ'∧ShR ρ' r (zAX lim L x.d p role peer pr).2.1.h ∧
    St we ρ' (Row sb (sesL r (zAX lim L x.d p role peer pr).2.1 pa x.db) 102::zAA pa lim (zAX lim L x.d p role peer pr).1::Each devI ds::F) w'):=by
 have h0:=zDX hx (hS.take (A:=Each devI ds) (.tail .head));refine(zLk (F:=Each devI (ds.eraseIdx i)::F) hv hs hp hb h0.pk).mono ?_;rintro v w' (⟨h1,rfl,h2⟩|⟨h1,sb,r,ρ',rfl,ho,hr,h2⟩)
 · have h3:=zFH hx (F:=zAA pa lim (zAX lim L x.d p role peer pr).1::F) h2.pk
   exact .inl ⟨h1,rfl,h3.pk⟩
 · have h3:=zFH hx (F:=Row sb (sesL r (zAX lim L x.d p role peer pr).2.1 pa x.db) 102::zAA pa lim (zAX lim L x.d p role peer pr).1::F) h2.pk
   exact .inr ⟨h1,sb,r,ρ',rfl,ho,hr,h3.pk⟩
structure NewPt (ρ:List (Nat × Obj))(ds:List DevH)(n:Nat)(x:PtH):Prop where
 ok:ShOk x.x.s.h
 rep:ShR ρ x.r x.x.s.h
 idx:x.x.s.index=0
 dev:∃y∈ds,y.db=x.db∧y.d.id=x.x.dev
 box:x.x.box=[]
 at_:x.at_=n
theorem zQn {K:Int→Bool}{heard:List Int}{msgs:List (List Int)}{evs:List Evt}{W:Wd}(hW:W=⟨L,heard,K,f,ds.map (·.d),ps.map (·.x),msgs,evs⟩)
 (hv:Vars we) (hT:zBf we) (hR:zCz we) (hz:o.name.size≤1000) (hpl:∀d∈ds,d.d.peers.length≤1000) (hp64:ps.length≤64) (hS:St we ρ (Row wb (wdL H f) 68::zAA H.p zAB L::zAD H.stb 8 (kvD ds)::Each devI ds::Vec 79 4 H.vp ps.length (ps.flatMap ptyL)::Each (ptI H.p) ps::F) w) :
 Cl Tryz.prog 47 [pP wb,opV o] w fun v w'=>v = .tuple #[pI (zEX W o).2.1,pI (zEX W o).2.2] ∧
  ∃ ρ' vp' ps',Over we ρ ρ'∧ps'.map (·.x)=(zEX W o).1.parts∧(ps'=ps∨∃x,ps'=ps++[x]∧NewPt ρ' ds ps.length x∧ps.length<64) ∧
   St we ρ' (Row wb (wdL { H with vp:=vp' } f) 68::zAA H.p zAB (zEX W o).1.L::zAD H.stb 8 (kvD ds)::Each devI ds::Vec 79 4 vp' ps'.length (ps'.flatMap ptyL)::Each (ptI H.p) ps'::F) w':=by
 obtain⟨Hp,Hkb,Hstb,Hds,Hps,Hms,Hvp,Hvm,Hve⟩:=H;simp only at hS ⊢;obtain⟨pk,capp,rfl⟩:=zKJ (hS.take (A:=Vec 79 4 Hvp ps.length (ps.flatMap ptyL)) An);obtain⟨ua,ia,kG,ha⟩:=zIv we ρ Hstb ds o.a;have hdev:W.dev o.a=(ds.map (·.d)).find? (fun d=>decide (d.id=o.a)):=by rw[hW];rfl
 have hWp:W.parts=ps.map (·.x):=by rw[hW]
 have hWL:W.L=L:=by rw[hW]
 unfold zEX;refine Run.calls2 (n:=82) Tryz.func47 rfl rfl rfl ?_;repeat' first|apply Qs|apply Qr|apply Qn|refine Ql ?_|(refine Qx ?_;clear hS;intro b w1 hS)
 refine(Run.regionH_cut (fun _:Unit=>zAD Hstb 8 (kvD ds)::Row b (wopL o) 57::Row wb (wdL ⟨Hp,Hkb,Hstb,Hds,Hps,Hms,.slice pk ps.length capp,Hvm,Hve⟩ f) 68::zAA Hp zAB L::Each devI ds::Vec 79 4 (.slice pk ps.length capp) ps.length (ps.flatMap ptyL)::Each (ptI Hp) ps::F) (fun _=>[(0,pP wb),(3,pP b),(6,ua),(7,.bool ia)]) (show St we ρ (zAD Hstb 8 (kvD ds)::Row b (wopL o) 57::Row wb (wdL ⟨Hp,Hkb,Hstb,Hds,Hps,Hms,.slice pk ps.length capp,Hvm,Hve⟩ f) 68::zAA Hp zAB L::Each devI ds::Vec 79 4 (.slice pk ps.length capp) ps.length (ps.flatMap ptyL)::Each (ptI Hp) ps::F) _ from hS.pk) (List.Sublist.refl _) (by rfl) (by rfl) (by rfl) ?_ ?_)
 · clear hS
   intro w1 hS;refine RH.relist (listed':=bm 12 0) (by kernel_rfl) ?_;repeat' first|refine Yt 0 0 ?_|refine Yt 1 1 ?_|refine Yl 3 2 ?_|refine Yl 7 3 ?_|refine Yl 15 4 ?_|refine Yl 31 5 ?_|refine Yt 127 7 ?_|refine Yt 255 8 ?_|refine Yt 511 9 ?_|refine Yt 1023 10 ?_|refine Yt 2047 11 ?_|(refine Ov 77 (kG hS.tk) ?_;clear hS;intro w1 hS;refine Xh ?_)|refine Jo ?_|refine Za 63 6 ?_|(refine Yd 4095 ?_;exact⟨(),Sb,hS.pk⟩)
 clear hS kG;rintro - w1 hS;rw[hdev];rcases ha with ⟨rfl,rfl,ha4⟩|⟨rfl,i,y,ha1,ha2,rfl,ha4⟩
 · rw[ha4]
   repeat' first|apply Qs|apply Qr|apply Qn|refine Ql ?_|refine Qt ?_
   refine Qw Tryz.func47 ?_;exact⟨rfl,ρ,_,ps,Over.refl _ _,hWp.symm,.inl rfl,(by rw[hWL];exact hS.pk)⟩
 rw[ha4];simp only;have hnm := @zNV o.name;have kB:∀{σ:List HP} {w:World},St we ρ σ w→_:=fun hS=>zLz (name:=o.name) hv hT hR hz hS
 generalize zCu o.name=nq at kB hnm;obtain⟨np,ne⟩:=nq;simp only at kB hnm ⊢;by_cases hne:ne=0;rotate_left
 · rw[if_pos hne]
   repeat' first|(refine Qc 87 (c:=kB hS) (k':=?_);clear hS;rintro v w1 ⟨pv2,ρ2,rfl,o2,hp2,hS⟩;obtain⟨z0,d0,z1,d1,zm,dm,rfl,-⟩:=hp2.shape)|apply Qs|apply Qr|(apply Rs<;>intro hc<;>try exact No)|apply Qn|refine Ql ?_|(refine Qa ?_;clear hS;intro b w1 hS)|(refine Qd ?_;clear hS;intro w1 hS)|refine Qt ?_|refine Qf ?_|apply Qk
   refine Qw Tryz.func47 ?_;exact⟨rfl,ρ2,_,ps,o2,hWp.symm,.inl rfl,(by rw[hWL];exact hS.pk)⟩
 rw[if_neg (by simpa using hne)];subst hne;obtain⟨hnm1,hnm2⟩:=hnm rfl;rw[hWL,hWp];have hn0 := @zGo zAB L y.d np o.b o.c 0;have kN:∀(ρ:List (Nat × Obj)) (pv:Value),PatR ρ pv np→∀{F w},St we ρ (zAA Hp zAB L::Each devI ds::F) w→_:=fun ρ pv hp {F} {w} hS=>zUr (role:=o.b) (peer:=o.c) (pr:=0) ha1 hv (by rw[hnm1];omega) hp (by have:=hpl y (List.mem_of_getElem? ha1);omega) hS
 generalize zAX zAB L y.d np o.b o.c 0=nz at kN hn0;obtain⟨L2,s2,e2⟩:=nz;simp only at kN hn0 ⊢;repeat' first|(refine Qc 87 (c:=kB hS) (k':=?_);clear hS;rintro v w1 ⟨pv2,ρ2,rfl,o2,hp2,hS⟩;obtain⟨z0,d0,z1,d1,zm,dm,rfl,-⟩:=hp2.shape)|(refine Qa ?_;clear hS;intro bp w1 hS)|apply Qs|apply Qr|(apply Rs<;>intro hc<;>try exact No)|apply Qn|refine Ql ?_|(refine Qd ?_;clear hS;intro w1 hS)|refine Qf ?_|apply Qk
 have kN2 := @kN ρ2 _ hp2;by_cases he:e2≠0
 · rw[if_pos he]
   refine(Run.regionH_cut (fun _:Unit=>zAA Hp zAB L2::Each devI ds::Row bp [.string np.name,.slice z0 np.pre0.length d0,.slice z1 np.pre1.length d1,.slice zm np.msgs.length dm] 84::Row b (wopL o) 57::Row wb (wdL ⟨Hp,Hkb,Hstb,Hds,Hps,Hms,.slice pk ps.length capp,Hvm,Hve⟩ f) 68::zAD Hstb 8 (kvD ds)::Vec 79 4 (.slice pk ps.length capp) ps.length (ps.flatMap ptyL)::Each (ptI Hp) ps::F) (fun _=>[(9,pI e2)]) (show St we ρ2 (zAA Hp zAB L::Each devI ds::Row bp [.string np.name,.slice z0 np.pre0.length d0,.slice z1 np.pre1.length d1,.slice zm np.msgs.length dm] 84::Row b (wopL o) 57::Row wb (wdL ⟨Hp,Hkb,Hstb,Hds,Hps,Hms,.slice pk ps.length capp,Hvm,Hve⟩ f) 68::zAD Hstb 8 (kvD ds)::Vec 79 4 (.slice pk ps.length capp) ps.length (ps.flatMap ptyL)::Each (ptI Hp) ps::F) _ from hS.pk) (.cons _ (List.Sublist.refl _)) (by rfl) (by rfl) (by rfl) ?_ ?_)
   · clear hS
     intro w1 hS;refine RH.relist (listed':=bm 16 0) (by kernel_rfl) ?_;repeat' first|refine Yt 0 0 ?_|refine Yt 1 1 ?_|refine Yl 3 2 ?_|refine Yl 7 3 ?_|refine Yt 15 4 ?_|refine Yl 31 5 ?_|refine Yl 63 6 ?_|refine Yl 127 7 ?_|refine Yl 255 8 ?_|refine Yl 511 9 ?_|refine Yt 2047 11 ?_|refine Yt 4095 12 ?_|refine Yt 8191 13 ?_|refine Yt 16383 14 ?_|refine Yt 32767 15 ?_|(refine Oc 88 (c:=kN2 hS) (k':=?_);clear hS;rintro v w1 (⟨hv0,rfl,hS⟩|⟨hv0,sb,r,ρ3,rfl,o3,hr3,hS⟩)<;>first|exact absurd hv0 he|skip;refine Xh ?_)|refine Jo ?_|refine Za 1023 10 ?_|(refine Yd 65535 ?_;exact⟨(),Sb,hS.pk⟩)
   clear hS;rintro - w1 hS;repeat' first|apply Qs|apply Qr|(apply Rs<;>intro hc<;>try exact No)|apply Qn|refine Ql ?_|refine Qt ?_|apply Qb
   refine Qw Tryz.func47 ?_;exact⟨rfl,ρ2,_,ps,o2,rfl,.inl rfl,hS.pk⟩
 · rw[if_neg he]
   obtain rfl:e2=0:=by omega
   obtain⟨hn1,hn2⟩:=hn0 rfl;have hS:St we ρ2 (zAA Hp zAB L::Each devI ds::Row bp [.string np.name,.slice z0 np.pre0.length d0,.slice z1 np.pre1.length d1,.slice zm np.msgs.length dm] 84::Row b (wopL o) 57::Row wb (wdL ⟨Hp,Hkb,Hstb,Hds,Hps,Hms,.slice pk ps.length capp,Hvm,Hve⟩ f) 68::zAD Hstb 8 (kvD ds)::Vec 79 4 (.slice pk ps.length capp) ps.length (ps.flatMap ptyL)::Each (ptI Hp) ps::F) _:=hS.pk;refine Run.regionH (fun w=>∃ ρ',St we ρ' (Row bp [.string np.name,.slice z0 np.pre0.length d0,.slice z1 np.pre1.length d1,.slice zm np.msgs.length dm] 84::Row b (wopL o) 57::Row wb (wdL ⟨Hp,Hkb,Hstb,Hds,Hps,Hms,.slice pk ps.length capp,Hvm,Hve⟩ f) 68::zAD Hstb 8 (kvD ds)::Vec 79 4 (.slice pk ps.length capp) ps.length (ps.flatMap ptyL)::Each (ptI Hp) ps::F) w)
    (fun e w=>∃sb r ρ',Over we ρ2 ρ'∧ShR ρ' r s2.h∧Sub e [(0,pP wb),(3,pP b),(9,pI 0),(10,pP sb)]∧St we ρ' (Row sb (sesL r s2 Hp y.db) 102::zAA Hp zAB L2::Each devI ds::Row bp [.string np.name,.slice z0 np.pre0.length d0,.slice z1 np.pre1.length d1,.slice zm np.msgs.length dm] 84::Row b (wopL o) 57::Row wb (wdL ⟨Hp,Hkb,Hstb,Hds,Hps,Hms,.slice pk ps.length capp,Hvm,Hve⟩ f) 68::zAD Hstb 8 (kvD ds)::Vec 79 4 (.slice pk ps.length capp) ps.length (ps.flatMap ptyL)::Each (ptI Hp) ps::F) w)
    (fun e w ⟨sb,r,ρ3,o3,hr3,h1,hS3⟩=>Run.weaken h1 ?_) (by rfl) (by rfl) (by rfl) ?_
   rotate_left
   · replace hS:=hS.drew
     refine RH.relist (listed':=bm 16 0) (by kernel_rfl) ?_;repeat' first|refine Wt 0 0 ?_ (hS:=He) (h:=Ea)|refine Wt 1 1 ?_ (hS:=He) (h:=Ea)|refine Wt 3 2 ?_ (hS:=He) (h:=Ee)|refine Wt 7 3 ?_ (hS:=He) (h:=Ee)|refine Wt 15 4 ?_ (hS:=He) (h:=Ea)|refine Wt 31 5 ?_ (hS:=He) (h:=Ee)|refine Wt 63 6 ?_ (hS:=He) (h:=Ee)|refine Wt 127 7 ?_ (hS:=He) (h:=Ee)|refine Wt 255 8 ?_ (hS:=He) (h:=Ee)|refine Wt 511 9 ?_ (hS:=He) (h:=Ee)|refine Wt 2047 11 ?_ (hS:=He) (h:=Ea)|refine Wt 4095 12 ?_ (hS:=He) (h:=Ea)|refine Wt 8191 13 ?_ (hS:=He) (h:=Ea)|refine Wt 16383 14 ?_ (hS:=He) (h:=Ea)|refine Wt 32767 15 ?_ (hS:=He) (h:=Ea)|(refine Oc 88 (c:=kN2 hS) (k':=?_);clear hS;rintro v w1 (⟨hv0,rfl,hS⟩|⟨hv0,sb,r,ρ3,rfl,o3,hr3,hS⟩)<;>first|exact absurd rfl hv0|skip;refine⟨(by first|exact⟨_,hS⟩|exact⟨_,hS.tail⟩|exact⟨_,hS.sublist (by repeat(first|exact List.Sublist.refl _|refine .cons_cons _ ?_|refine .cons _ ?_))⟩),?_⟩)|refine Jo ?_|refine Za 1023 10 ?_|(refine Yd 65535 ?_;exact⟨_,_,ρ3,o3,hr3,(by exact Sb),hS.pk⟩)
   clear hS;have hS:=hS3;by_cases h64:64≤ps.length
   · rw[if_pos (by rw[List.length_map];exact h64)]
     repeat' first|apply Qs|apply Qr|(apply Rs<;>intro hc<;>try exact No)|apply Qn|refine Ql ?_|refine Qt ?_|refine Qf ?_|apply Qb
     refine Qw Tryz.func47 ?_;exact⟨rfl,ρ3,_,ps,o2.trans o3,rfl,.inl rfl,hS.pk⟩
   · rw[if_neg (by rw[List.length_map];exact h64)]
     repeat' first|apply Qs|apply Qr|(apply Rs<;>intro hc<;>try exact No)|apply Qn|refine Ql ?_|refine Qf ?_|apply Qk|apply Qb|apply Qi
     refine(Run.regionH_cut (fun z:(Option Addr × Nat) × Nat=>Row wb (wdL ⟨Hp,Hkb,Hstb,Hds,Hps,Hms,.slice z.1.1 (ps.length+1) z.1.2,Hvm,Hve⟩ f) 68::Vec 79 4 (.slice z.1.1 (ps.length+1) z.1.2) (ps.length+1) (ps.flatMap ptyL++[pP sb,pP z.2,pI ps.length,pI o.a])::zDL z.2 8 []::Row b (wopL o) 57::Row sb (sesL r s2 Hp y.db) 102::zAA Hp zAB L2::Each devI ds::zAD Hstb 8 (kvD ds)::Each (ptI Hp) ps::F)
      (fun _=>[(0,pP wb),(3,pP b)]) (show St we ρ3 (Row wb (wdL ⟨Hp,Hkb,Hstb,Hds,Hps,Hms,.slice pk ps.length capp,Hvm,Hve⟩ f) 68::Vec 79 4 (.slice pk ps.length capp) ps.length (ps.flatMap ptyL)::Row b (wopL o) 57::Row sb (sesL r s2 Hp y.db) 102::zAA Hp zAB L2::Each devI ds::zAD Hstb 8 (kvD ds)::Each (ptI Hp) ps::F) _ from hS.pk) (.cons _ (.cons _ (List.Sublist.refl _))) (by rfl) (by rfl) (by rfl) ?_ ?_)
     · clear hS
       intro w1 hS;refine RH.relist (listed':=bm 20 0) (by kernel_rfl) ?_;repeat' first|refine Yt 0 0 ?_|refine Yt 1 1 ?_|refine Yt 3 2 ?_|refine Yl 7 3 ?_|refine Yt 15 5 ?_|refine Yt 47 7 ?_|refine Yt 175 8 ?_|refine Yl 431 9 ?_|refine Yl 943 12 ?_|refine Yl 5039 13 ?_|refine Yt 14335 11 ?_|refine Yt 16383 14 ?_|refine Yt 131071 17 ?_|refine Yl 262143 18 ?_|refine Yt 14271 11 ?_|refine Yt 14319 11 ?_|refine Yt 16367 14 ?_|refine Yt 14255 11 ?_|refine Om (Xh ?_)|(refine Oc 89 (c:=zKq hS) (k':=?_);clear hS;rintro v w1 ⟨bb,rfl,hS⟩;refine Xh ?_)|(refine Og ?_;clear hS;intro b w1 hS;refine Xh ?_)|(apply OP.append (size:=4) (bytes:=32) (k:=1) (news:=[pP sb,pP bb,pI ps.length,pI o.a]) hS;rfl;rfl;rfl;rfl;rfl;rfl;rfl;rfl;exact(by omega);exact An;(exact Rd.any);rfl;rfl;exact(by intro v hv;simp at hv;rcases hv with rfl|rfl|rfl|rfl<;>rfl);(exact(by unfold maxLen;omega));(exact(by omega));rfl;clear hS;intro v2 w1 hS;obtain⟨pk2,capk2,rfl⟩:=zAG hS;refine Xh ?_)|(refine Od ?_;clear hS;intro w1 hS;refine Xh ?_)|refine Jo ?_|refine Zc 13231 4 6 10 ?_ ?_ ?_|refine Zb 13247 6 10 ?_ ?_|refine Za 13311 10 ?_|refine Za 32767 15 ?_|refine Za 65535 16 ?_|refine Za 524287 19 ?_|refine Za 16319 6 ?_|refine Zb 13295 4 10 ?_ ?_|refine Zb 32751 4 15 ?_ ?_|refine Za 65519 4 ?_|refine Zb 16303 4 6 ?_ ?_|(refine Yd 1048575 ?_;exact⟨((pk2,capk2),bb),(by exact Sb),hS.pk⟩)
     clear hS;rintro⟨⟨pk2,capk2⟩,bb⟩ w1 hS;have hsub:IntKind.i64.wrap (((ps.length+1:Nat):Int) - 1)=(ps.length:Int):=by
      rw[show((ps.length+1:Nat):Int) - 1=ps.length by omega];exact zA8 (by omega) (by omega)
     repeat' first|(refine Ql ?_ (h:=by apply Still.sub;rfl;rfl;exact hsub))|apply Qs|apply Qr|apply Qn|refine Ql ?_
     refine Qw Tryz.func47 ?_;have h5:=zHq (f:=ptI Hp) (a:=⟨⟨s2,[],o.a⟩,sb,bb,y.db,r,ps.length⟩) (l:=ps) (St.star.2
      (hS.picks (σ':=Row sb (sesL r s2 Hp y.db) 102::zDL bb 8 []::Each (ptI Hp) ps::Row wb (wdL ⟨Hp,Hkb,Hstb,Hds,Hps,Hms,.slice pk2 (ps.length+1) capk2,Hvm,Hve⟩ f) 68::zAA Hp zAB L2::zAD Hstb 8 (kvD ds)::Each devI ds::Vec 79 4 (.slice pk2 (ps.length+1) capk2) (ps.length+1) (ps.flatMap ptyL++[pP sb,pP bb,pI ps.length,pI o.a])::F) (by focus((repeat(first|apply Picks.all|apply Picks.nil|(refine Picks.cons (by repeat(first|apply Take.head|apply Take.tail)) ?_)|apply Picks.drop));done))))
     refine⟨by rw[List.length_map];rfl,ρ3,.slice pk2 (ps.length+1) capk2,ps++[⟨⟨s2,[],o.a⟩,sb,bb,y.db,r,ps.length⟩],o2.trans o3,by rw[List.map_append];rfl,.inr ⟨_,rfl,⟨hn1,hr3,hn2,⟨y,List.mem_of_getElem? ha1,rfl,ha2⟩,rfl,rfl⟩,by omega⟩,?_⟩;rw[List.length_append,List.flatMap_append];exact h5.pk
end
end Go.Proofs.YtcikdogkkgefcaaGreatDoor
