/- What a recipe makes can be made; a recipe run again. A recipe once more in what it left makes the same; a recipe in two parts. valid.sealing. -/
import Derived.Test.YtcikdogkkgefcaaGreatDoorMA12
import Derived.Test.YtcikdogkkgefcaaGreatDoorMA13
namespace Go.Proofs.YtcikdogkkgefcaaGreatDoor
set_option maxRecDepth 8000
set_option maxHeartbeats 16000000
set_option linter.unusedVariables false
set_option linter.unusedSimpArgs false
open Go Go.RowKit
section
variable {lim:Nat}{L M:List Nd}{K:Int→Bool}{heard made:List Int}{s:Stp}
theorem zKc (g:Good lim L)(g2:Good lim (L++M))(hh:∀x,K x=true→has L x=true)(y:Int):pubK (L++M) K y=pubK L K y:=by
 rw[Bool.eq_iff_iff,zKb g,zKb g2];constructor
 · rintro⟨i,h1,h2,h3,h4⟩
   have hi:=hh _ h2;rw[zAt hi]at h3 h4;exact⟨i,by have:=zAV.1 hi;omega,h2,h3,h4⟩
 · rintro⟨i,h1,h2,h3,h4⟩
   have hi:=zIi h1;exact⟨i,by rw[List.length_append];omega,h2,by rw[zAt hi];exact h3,by rw[zAt hi];exact h4⟩
theorem zSn (g:Good lim L)(g2:Good lim (L++M))(hh:∀x,K x=true→has L x=true):∀(f:Nat) (x:Int),x<f→has L x=true→can (L++M) K x=can L K x:=by
 intro f;induction f with
 | zero=>intro x hx h;have:=zAV.1 h;omega
 | succ f ih =>
   intro x hlt hx;rw[zGg g K hx,zGg g2 K (zBo hx)];congr 1
   unfold canR;rw[zAt hx];by_cases k0:(nd L x).k=0∨(nd L x).k=9
   · rw[if_pos k0,if_pos k0]
   rcases zCG g hx with hk|⟨a1,a2,a3,b1,b2,b3⟩
   · exact absurd (.inl hk) k0
   rw[ih _ (by omega) a1,ih _ (by omega) a2,ih _ (by omega) a3,zKc g g2 hh,zKc g g2 hh]
theorem zKB (g:Good lim L)(g2:Good lim (L++M))(hh:∀x,K x=true→has L x=true){x:Int}(h:can L K x=true):can (L++M) K x=true:=by
 rw[zSn g g2 hh (x.toNat+1) x (by have:=zAV.1 (zFv h);omega) (zFv h)];exact h
theorem zJ7 (g:Good lim L)(g2:Good lim (L++M))(hh:∀x,K x=true→has L x=true)(hc:Closed L K):Closed (L++M) K:=by
 refine⟨fun x hx hk=>?_,fun x hx hk hcn=>?_⟩
 · rw[zAt (hh x hx)]at hk ⊢
   exact hc.pair x hx hk
 · rw[zAt (hh x hx)]at hk hcn ⊢
   rcases zCG g (hh x hx)with q|⟨a1,_⟩
   · omega
   · rw[zSn g g2 hh ((nd L x).a.toNat+1) _ (by have:=zAV.1 a1;omega) a1]at hcn
     exact hc.opn x hx hk hcn
def zMe (L:List Nd)(K:Int→Bool)(l:List Int):Prop:=∀x∈l,can L K x=true
theorem zBI (h:zMe L K made){x:Int}(hx:ahd made x=true):can L K (mde made x)=true:=by
 obtain⟨h2,e⟩:=zIX hx;rw[e];exact h _ (List.getElem_mem h2)
theorem zGM (g:Good lim L)(hh:∀x,K x=true→has L x=true){n:Nd}(he:(mk lim L n).2.2=0)
 (hr:∀L':List Nd,(∃M,L'=L++M)→Good lim L'→(∀x,K x=true→has L' x=true)→(∀y,can L K y=true→can L' K y=true)→(∀y,pubK L K y=true→pubK L' K y=true)→∀x,nd L' x=n→canR L' K (can L' K) x=true) :
 can (mk lim L n).1 K (mk lim L n).2.1=true:=by
 obtain⟨h1,h2⟩:=zKm he;obtain⟨M,hM⟩:=zDs lim L n;have g2:=zDd g n;rw[zGg g2 K h1,Bool.or_eq_true];right
 have hup:∀y,can L K y=true→can (mk lim L n).1 K y=true:=fun y hy=>by
  rw[hM]at g2 ⊢;exact zKB g g2 hh hy
 have hpu:∀y,pubK L K y=true→pubK (mk lim L n).1 K y=true:=fun y hy=>by
  rw[hM]at g2 ⊢;rw[zKc g g2 hh];exact hy
 exact hr _ ⟨M,hM⟩ g2 (fun x hx=>by rw[hM];exact zBo (hh x hx)) hup hpu _ h2
theorem zQ5 (g:Good lim L)(hh:∀x,K x=true→has L x=true){x y:Int}(hx:can L K x=true)(hy:can L K y=true)(he:(share lim L x y).2.2=0):can (share lim L x y).1 K (share lim L x y).2.1=true:=by
 unfold share at he ⊢;rw[if_pos ⟨zFv hx,zFv hy⟩]at he ⊢;by_cases h2:(nd L y).k≠2
 · rw[if_pos h2]at he ⊢
   refine zGM g hh he (fun L' hL g' hh' hup hpu z hz=>?_);unfold canR;rw[hz];simp[hup _ hx,hup _ hy]
 · rw[if_neg h2]at he ⊢
   have h2':(nd L y).k=2:=by omega
   have hz:pubK L K (nd L y).a=true∨can L K (nd L y).a=true:=by
    have:=hy;rw[zGg g K (zFv hy),Bool.or_eq_true]at this;rcases this with q|q
    · left
      obtain⟨i,hi,hl⟩:=zEq (hh _ q);exact(zKb g).2 ⟨i,hl,by rw[← hi];exact q,by rw[← hi];exact h2',by rw[← hi]⟩
    · right
      unfold canR at q;rw[if_neg (by omega),if_neg (by omega),if_pos h2']at q;exact q
   by_cases h3:cmp L x (nd L y).a>0
   · rw[if_pos h3]at he ⊢
     refine zGM g hh he (fun L' hL g' hh' hup hpu z hzz=>?_);unfold canR;rw[hzz];rcases hz with q|q
     · simp[hup _ hx,hpu _ q]
     · simp[hup _ hx,hup _ q]
   · rw[if_neg h3]at he ⊢
     refine zGM g hh he (fun L' hL g' hh' hup hpu z hzz=>?_);unfold canR;rw[hzz];rcases hz with q|q
     · simp[hup _ hx,hpu _ q]
     · simp[hup _ hx,hup _ q]
theorem zLT (g:Good lim L)(hh:∀x,K x=true→has L x=true)(hc:Closed L K)(hm:zMe L K made)(ha:ahd made s.a=true)(hb:s.op=12→ahd made s.b=true)(he:(zEb L made s).2=0):can L K (zEb L made s).1=true:=by
 have hx:=zBI hm ha;have hxh:=zFv hx;have hx2:=hx;rw[zGg g K hxh,Bool.or_eq_true]at hx2;unfold zEb at he ⊢;by_cases h12:s.op=12
 · rw[if_pos h12]at he ⊢
   by_cases h7:(nd L (mde made s.a)).k=7∧(nd L (mde made s.a)).a=mde made s.b
   · rw[if_pos h7]
     simp only;have hkey:can L K (nd L (mde made s.a)).a=true:=by rw[h7.2];exact zBI hm (hb h12)
     rcases hx2 with q|q
     · have:=hc.opn _ q h7.1 hkey
       exact zEz g (hh _ this) this
     · unfold canR at q
       rw[if_neg (by omega),if_neg (by omega),if_neg (by omega),if_neg (by omega),if_pos h7.1]at q;simp only[Bool.and_eq_true]at q;exact q.2
   · rw[if_neg h7]at he;cases he
 · rw[if_neg h12]at he ⊢
   by_cases h8:(nd L (mde made s.a)).k=8
   · rw[if_pos h8]
     have hab:can L K (nd L (mde made s.a)).a=true∧can L K (nd L (mde made s.a)).b=true:=by
      rcases hx2 with q|q
      · obtain⟨p1,p2⟩:=hc.pair _ q h8
        exact⟨zEz g (hh _ p1) p1,zEz g (hh _ p2) p2⟩
      · unfold canR at q
        rw[if_neg (by omega),if_neg (by omega),if_neg (by omega),if_neg (by omega),if_neg (by omega)]at q;simpa using q
     simp only;split
     · exact hab.1
     · exact hab.2
   · rw[if_neg h8]at he;cases he
theorem zVB (g:Good lim L)(hh:∀x,K x=true→has L x=true)(hc:Closed L K)(hn:0≤s.n)(h1:∀x∈heard,K x=true)(hm:zMe L K made)(he:(oneS lim L heard made s).2.2=0) :
 can (oneS lim L heard made s).1 K (oneS lim L heard made s).2.1=true:=by
 unfold oneS at he ⊢;by_cases c0:s.op=0
 · rw[if_pos c0]at he ⊢
   by_cases hcd:s.n=0∧s.b=0∧s.c=0∧0≤s.a∧s.a<heard.length
   · rw[if_pos hcd]
     obtain⟨h2,e⟩:=zIX (made:=heard) (x:=s.a) (zFy.2 hcd.2.2.2);have:K (mde heard s.a)=true:=by rw[e];exact h1 _ (List.getElem_mem h2)
     exact zEz g (hh _ this) this
   · rw[if_neg hcd]at he;cases he
 rw[if_neg c0]at he ⊢;by_cases c1:s.op=1
 · rw[if_pos c1]at he ⊢
   by_cases hcd:s.n<1048576∧zAn s 0 made=true
   · rw[if_pos hcd]at he ⊢
     refine zGM g hh he (fun L' hL g' hh' hup hpu z hz=>?_);unfold canR;rw[hz];simp;omega
   · rw[if_neg hcd]at he;cases he
 rw[if_neg c1]at he ⊢;by_cases c2:s.op=2
 · rw[if_pos c2]at he ⊢
   by_cases hcd:s.n=0∧zAn s 1 made=true
   · rw[if_pos hcd]at he ⊢
     have ha:=zBI hm (zCr hcd.2 (by omega));refine zGM g hh he (fun L' hL g' hh' hup hpu z hz=>?_);unfold canR;rw[hz];simp[hup _ ha]
   · rw[if_neg hcd]at he;cases he
 rw[if_neg c2]at he ⊢;by_cases c3:s.op=3
 · rw[if_pos c3]at he ⊢
   by_cases hcd:s.n=0∧zAn s 2 made=true
   · rw[if_pos hcd]at he ⊢
     exact zQ5 g hh (zBI hm (zCr hcd.2 (by omega))) (zBI hm (zFx hcd.2 (by omega))) he
   · rw[if_neg hcd]at he;cases he
 rw[if_neg c3]at he ⊢;by_cases c5:s.op=5∨s.op=8
 · rw[if_pos c5]at he ⊢
   by_cases hcd:s.n=0∧zAn s 2 made=true
   · rw[if_pos hcd]at he ⊢
     have ha:=zBI hm (zCr hcd.2 (by omega));have hb:=zBI hm (zFx hcd.2 (by omega));refine zGM g hh he (fun L' hL g' hh' hup hpu z hz=>?_);unfold canR;rw[hz];rcases c5 with c5|c5<;>simp[c5,hup _ ha,hup _ hb]
   · rw[if_neg hcd]at he;cases he
 rw[if_neg c5]at he ⊢;by_cases c6:s.op=6
 · rw[if_pos c6]at he ⊢
   by_cases hcd:1≤s.n∧s.n≤4∧zAn s 2 made=true
   · rw[if_pos hcd]at he ⊢
     have ha:=zBI hm (zCr hcd.2.2 (by omega));have hb:=zBI hm (zFx hcd.2.2 (by omega));refine zGM g hh he (fun L' hL g' hh' hup hpu z hz=>?_);unfold canR;rw[hz];simp[hup _ ha,hup _ hb]
   · rw[if_neg hcd]at he;cases he
 rw[if_neg c6]at he ⊢;by_cases c7:s.op=7
 · rw[if_pos c7]at he ⊢
   by_cases hcd:zAn s 3 made=true
   · rw[if_pos hcd]at he ⊢
     have ha:=zBI hm (zCr hcd (by omega));have hb:=zBI hm (zFx hcd (by omega));have hc':=zBI hm (zOG hcd (by omega));refine zGM g hh he (fun L' hL g' hh' hup hpu z hz=>?_);unfold canR;rw[hz];simp[hup _ ha,hup _ hb,hup _ hc']
   · rw[if_neg hcd]at he;cases he
 rw[if_neg c7]at he ⊢;by_cases c9:s.op=9
 · rw[if_pos c9]at he ⊢
   by_cases hcd:zAn s 0 made=true
   · rw[if_pos hcd]at he ⊢
     refine zGM g hh he (fun L' hL g' hh' hup hpu z hz=>?_);unfold canR;rw[hz];simp
   · rw[if_neg hcd]at he;cases he
 rw[if_neg c9]at he ⊢;by_cases c10:s.op=10∨s.op=11
 · rw[if_pos c10]at he ⊢
   by_cases hcd:s.n=0∧zAn s 1 made=true
   · rw[if_pos hcd]at he ⊢
     exact zLT g hh hc hm (zCr hcd.2 (by omega)) (fun h=>by omega) he
   · rw[if_neg hcd]at he;cases he
 rw[if_neg c10]at he ⊢;by_cases c12:s.op=12
 · rw[if_pos c12]at he ⊢
   by_cases hcd:s.n=0∧zAn s 2 made=true
   · rw[if_pos hcd]at he ⊢
     exact zLT g hh hc hm (zCr hcd.2 (by omega)) (fun h=>zFx hcd.2 (by omega)) he
   · rw[if_neg hcd]at he;cases he
 rw[if_neg c12]at he ⊢;by_cases c13:s.op=13
 · rw[if_pos c13]at he ⊢
   by_cases hcd:s.n=0∧zAn s 0 made=true
   · rw[if_pos hcd]
     show can L K 0=true;rw[zGg g K (has0 g),Bool.or_eq_true];right
     unfold canR;rw[g.wf.zero];rfl
   · rw[if_neg hcd]at he;cases he
 rw[if_neg c13]at he;cases he
end
section
variable {lim:Nat}{L M:List Nd}{heard made:List Int}
theorem zRF:∀(l:List Stp) (L:List Nd) (made:List Int) (i:Nat),((runS lim heard l L made i).2.2.2=0→∃M,(runS lim heard l L made i).2.1=made++M∧M.length=l.length) ∧
 ((runS lim heard l L made i).2.2.2≠0→(runS lim heard l L made i).2.1=[]∧i≤(runS lim heard l L made i).2.2.1):=by
 intro l;induction l with
 | nil=>intro L made i;exact⟨fun _=>⟨[],by simp[runS]⟩,fun h=>absurd rfl h⟩
 | cons s l ih =>
   intro L made i;by_cases he:(oneS lim L heard made s).2.2=0
   · rw[zOT he]
     obtain⟨h1,h2⟩:=ih (oneS lim L heard made s).1 (made++[(oneS lim L heard made s).2.1]) (i+1);refine⟨fun h=>?_,fun h=>?_⟩
     · obtain⟨M,e,e2⟩:=h1 h
       exact⟨_::M,by rw[e,List.append_assoc];rfl,by simp[e2]⟩
     · obtain⟨a,b⟩:=h2 h
       exact⟨a,by omega⟩
   · unfold runS
     rw[if_pos he];exact⟨fun h=>absurd h he,fun _=>⟨rfl,Nat.le_refl _⟩⟩
end
section
variable {we w:World}{ρ:List (Nat × Obj)}{σ F:List HP}{v:Value}
theorem zBh {s:VS}{b:Nat}{who:Int}(hw:who=0∨who=1)(hS:St we ρ (Row b (vsL s) 343::F) w) :
 Cl Tryz.prog 272 [pP b,pI who] w fun u w'=>u = pI (zFa s who)∧St we ρ (Row b (vsL s) 343::F) w':=by
 rcases hw with rfl|rfl
 all_goals
  refine Run.calls2 (n:=52) Tryz.func272 rfl rfl rfl ?_;repeat' first|(refine Run.regionQ_of hS (by rfl) (by kernel_rfl) ?_;clear hS)|(apply RQ.callF;rfl;rfl;rfl;(show ∀w,_→Cl _ 287 _ _ _;exact fun w hS=>zVJ hS))|(apply RQ.callF;rfl;rfl;rfl;(show ∀w,_→Cl _ 287 _ _ _;exact fun w hS=>zVI hS))|(apply RQ.callF;rfl;rfl;rfl;(show ∀w,_→Cl _ 287 _ _ _;exact fun w hS=>zVL hS))|(apply RQ.callF;rfl;rfl;rfl;(show ∀w,_→Cl _ 287 _ _ _;exact fun w hS=>zVK hS))|(apply RO.loadB hS;rfl;rfl;(exact Rd.any);rfl;rfl;all_goals(intro hb;try exact Bool.noConfusion hb))|(apply RQ.loadB;rfl;rfl;(exact Rd.any);rfl;rfl;all_goals(intro hb;try exact Bool.noConfusion hb))|(refine Ql ?_ (h:=Sx))|(refine RQ.still Sx rfl ?_)|(refine RQ.nil ?_;(try clear hS);intro w1 hS)|refine RQ.still (by exact Still.any) rfl ?_|refine RQ.yes rfl rfl ?_|refine RQ.no rfl rfl rfl rfl ?_|apply Qs|apply Qr|apply Qn|refine Ql ?_|refine Qy ?_|refine Qz ?_|refine Qt ?_|refine Qf ?_|apply Qk|apply Qb|apply Qi
  all_goals
   refine Qw Tryz.func272 ?_;refine⟨?_,hS.pk⟩;clear hS;simp_all [zFa,tup]
end
end Go.Proofs.YtcikdogkkgefcaaGreatDoor
