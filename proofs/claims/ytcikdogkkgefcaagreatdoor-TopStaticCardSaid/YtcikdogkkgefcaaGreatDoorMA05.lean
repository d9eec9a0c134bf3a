/- Which node may be: term.numbered, term.parts, (*Arena).right. What an arena does: Get, Len, Find, Mk, Share. A new arena, and an arena's copy. -/
import Derived.Test.YtcikdogkkgefcaaGreatDoorMA04
namespace Go.Proofs.YtcikdogkkgefcaaGreatDoor
set_option maxRecDepth 8000
set_option maxHeartbeats 16000000
set_option linter.unusedVariables false
set_option linter.unusedSimpArgs false
open Go Go.RowKit
section
variable {we w:World}{ρ:List (Nat × Obj)}{σ F:List HP}{p lim:Nat}{L:List Nd}
theorem zGe {x y:Int}(hS:St we ρ (zAA p lim L::F) w) :
 Cl Tryz.prog 179 [pP p,pI x,pI y] w fun v w'=>v = pI (cmp L x y)∧St we ρ (zAA p lim L::F) w':=by
 obtain⟨g,hS⟩:=zA7 hS;have h1:=g.wf.pos;exact zN6 L.length h1 (fun h=>(zAV.1 h).2) (fun h=>(zAV.1 h).2) hS
theorem zJG {n:Nd}(hS:St we ρ σ w):Cl Tryz.prog 177 [ndV n] w fun v w'=>v = .bool (zBW n)∧St we ρ σ w':=by
 refine Run.calls1 (n:=22) Tryz.func177 rfl rfl rfl ?_;repeat' first|apply Qs|apply Qr|(apply Rs<;>intro hc<;>try exact No)|apply Qn|refine Ql ?_|(refine Qx ?_;clear hS;intro b w1 hS)|refine Qy ?_|refine Qz ?_|refine Qt ?_|refine Qf ?_|apply Qk|apply Qb|apply Qi
 all_goals
  refine Qw Tryz.func177 ?_;refine⟨?_,hS.sublist (by(repeat(first|exact List.Sublist.refl _|refine .cons_cons _ ?_|refine .cons _ ?_)))⟩;simp only[tup,zBW];congr 1
  first|(simp_all;done)|(simp_all;omega)
def zUQ:List Value:=[pI 0,pI 0,pI 1,pI 2,pI 2,pI 2,pI 2,pI 3,pI 2,pI 0]
theorem zNG (hS:St we ρ σ w):Cl Tryz.prog 178 [] w fun v w'=>v = .agg zUQ.toArray∧St we ρ σ w':=by
 refine Run.calls0 (n:=2) Tryz.func178 rfl rfl ?_;repeat' first|apply Qs|apply Qr|apply Qn|refine Ql ?_|(refine Qa ?_;clear hS;intro b w1 hS)|(refine Qd ?_;clear hS;intro w1 hS)
 refine Qw Tryz.func178 ?_;exact⟨rfl,hS.sublist (by(repeat(first|exact List.Sublist.refl _|refine .cons_cons _ ?_|refine .cons _ ?_)))⟩
theorem zRS {k:Int}(h0:0≤k)(h9:k≤9):zUQ[k.toNat]? = some (pI (many k)):=by
 have:k=0∨k=1∨k=2∨k=3∨k=4∨k=5∨k=6∨k=7∨k=8∨k=9:=by omega
 rcases this with rfl|rfl|rfl|rfl|rfl|rfl|rfl|rfl|rfl|rfl<;>rfl
theorem zOU {n:Nd}(h:n.k<0∨9<n.k∨zBW n=false∨zBy L (many n.k) 0 n.a=false∨zBy L (many n.k) 1 n.b=false∨zBy L (many n.k) 2 n.c=false):right L n=false:=by
 unfold right;rcases h with h|h|h|h|h|h
 · rw[decide_eq_false (show ¬ 0≤n.k by omega)];simp
 · rw[decide_eq_false (show ¬n.k≤9 by omega)];simp
 all_goals simp[h]
theorem zRJ {n:Nd}(h0:0≤n.k)(h9:n.k≤9)(hn:zBW n=true)(ha:zBy L (many n.k) 0 n.a=true)(hb:zBy L (many n.k) 1 n.b=true)(hc:zBy L (many n.k) 2 n.c=true) :
 right L n=if n.k=3 then decide (cmp L n.a n.b≤0) else if n.k=4 then decide ((nd L n.b).k≠2) else true:=by
 unfold right;simp[h0,h9,hn,ha,hb,hc]
theorem zKh {m j x:Int}(h1:j<m)(h2:has L x=true):zBy L m j x=true:=by simp[zBy,h1,h2]
theorem zNI {m j x:Int}(h1:j<m)(h2:has L x=false):zBy L m j x=false:=by simp[zBy,h1,h2]
theorem zIO {m j x:Int}(h1:m≤j)(h2:x=0):zBy L m j x=true:=by simp[zBy,show ¬j<m by omega,h2]
theorem zIP {m j x:Int}(h1:m≤j)(h2:x≠0):zBy L m j x=false:=by simp[zBy,show ¬j<m by omega,h2]
theorem zOF {f:Int→Bool}{x:Int}{b:Bool}(h:[x].all f=b):f x=b:=by simpa using h
theorem zIG {n:Nd}(hS:St we ρ (zAA p lim L::F) w) :
 Cl Tryz.prog 136 [pP p,ndV n] w fun v w'=>v = .bool (right L n)∧St we ρ (zAA p lim L::F) w':=by
 refine Run.calls2 (n:=79) Tryz.func136 rfl rfl rfl ?_;repeat' first|(apply RO.op;apply OP.callF;rfl;rfl;rfl;exact zJG hS;clear hS;rintro v w1 ⟨rfl,hS⟩;refine RO.splitB ?_ ?_<;>intro hb)|apply Qs|apply Qr|(apply Rs<;>intro hc<;>try exact No)|apply Qn|refine Ql ?_|(refine Qx ?_;clear hS;intro b w1 hS)|refine Qy ?_|refine Qz ?_|refine Qt ?_|refine Qf ?_|apply Qk
 all_goals first
  | (refine Qw Tryz.func136 ?_
     refine⟨?_,hS.tk.sublist (by(repeat(first|exact List.Sublist.refl _|refine .cons_cons _ ?_|refine .cons _ ?_)))⟩;rw[zOU (by first|exact .inl (by assumption)|exact .inr (.inl (by assumption))|exact .inr (.inr (.inl (by assumption))))];rfl)
  | skip
 have h0:0≤n.k:=by omega
 have h9:n.k≤9:=by omega
 refine Run.regionQ_of hS (by rfl) (by kernel_rfl) ?_;clear hS;repeat' first|(apply RQ.callF;rfl;rfl;rfl;exact fun w hS=>zNG hS)|(refine RQ.still (by apply Still.index;rfl;rfl;rfl;rfl;(exact zAi);omega;omega;(first|(simp only[Int.toNat_natCast,Nat.mul_one,Nat.zero_add,Int.reduceToNat,Nat.reduceMul,Nat.reduceAdd,Nat.zero_mul];exact rfl)|rfl);exact zRS h0 h9) rfl ?_)|(refine RQ.nil ?_;(try clear hS);intro w1 hS)|refine RQ.still (by exact Still.any) rfl ?_
 have hm:=zVO n.k;have hm3:n.k≠3∨many n.k=2:=by by_cases h:n.k=3<;>simp[h,many]
 have hm4:n.k≠4∨many n.k=2:=by by_cases h:n.k=4<;>simp[h,many]
 repeat' first|(apply RO.op;apply OP.callF;rfl;rfl;rfl;exact zBl (xs:=[_]) hS.tk (by exact Rd.any) zNp len1;clear hS;rintro v w1 ⟨rfl,hS⟩;refine RO.splitB ?_ ?_<;>(intro hb;replace hb:=zOF hb))|(apply RO.op;apply OP.callF;rfl;rfl;rfl;exact zGe hS.tk;clear hS;rintro v w1 ⟨rfl,hS⟩)|refine Run.loop ?_|refine Run.inLoop ?_|apply Qs|apply Qr|(apply Rs<;>intro hc<;>try exact No)|apply Qn|refine Ql ?_|(refine Qg ?_;clear hS;intro b w1 hS)|refine Qy ?_|refine Qz ?_|refine Qu ?_|refine Qt ?_|refine Qf ?_|apply Qk|apply Qb|apply Qi|refine Qe ?_
 all_goals try(
  obtain⟨r,m',cap,spare,g1,g2,g3,g4,hS⟩:=zCE hS.tk;have hbb:=zAV.1 (show has L n.b=true by assumption);refine Run.regionQ_of hS (by rfl) (by kernel_rfl) ?_;clear hS;repeat' first|(refine RQ.split ?_ ?_<;>intro hc<;>try exact No)|(refine RQ.nil ?_;(try clear hS);intro w1 hS)|refine RQ.still (by exact Still.any) rfl ?_
  all_goals replace hS:=zBp g1 g2 g3 g4 hS)
 all_goals
  refine Qw Tryz.func136 ?_;refine⟨?_,hS.pk⟩;simp only[tup];congr 1
  first
   | (rw[zRJ h0 h9 (by assumption) (by first|exact zKh (by omega) (by assumption)|exact zIO (by omega) (by omega)) (by first|exact zKh (by omega) (by assumption)|exact zIO (by omega) (by omega)) (by first|exact zKh (by omega) (by assumption)|exact zIO (by omega) (by omega))]
      by_cases q3:n.k=3
      · rw[if_pos q3]
        first|(exfalso;omega)|exact(decide_eq_true (by omega)).symm|exact(decide_eq_false (by omega)).symm
      · rw[if_neg q3]
        by_cases q4:n.k=4
        · rw[if_pos q4]
          first|(exfalso;omega)|exact(decide_eq_true (by omega)).symm|exact(decide_eq_false (by omega)).symm
        · first|(rw[if_neg q4];done)|(exfalso;omega))
   | (rw[zOU (.inr (.inr (.inr (by first|exact .inl (zNI (by omega) (by assumption))|exact .inl (zIP (by omega) (by omega))|exact .inr (.inl (zNI (by omega) (by assumption)))|exact .inr (.inl (zIP (by omega) (by omega)))|exact .inr (.inr (zNI (by omega) (by assumption)))|exact .inr (.inr (zIP (by omega) (by omega)))))))])
end
section
variable {we w:World}{ρ:List (Nat × Obj)}{σ F:List HP}{p lim:Nat}{L:List Nd}
theorem zVF {x:Int}(g:Good lim L)(h:has L x=false):nd L x=Nd.z:=by
 by_cases h0:x<0
 · have:nd L x=nd L 0:=by unfold nd;congr 1;omega
   rw[this,g.wf.zero]
 · refine zWP ?_
   by_cases h1:x<L.length
   · exact absurd (zAV.2 ⟨by omega,h1⟩) (by simp[h])
   · omega
theorem zA0 {x:Int}(hS:St we ρ (zAA p lim L::F) w) :
 Cl Tryz.prog 10 [pP p,pI x] w fun v w'=>v = .tuple #[ndV (nd L x),.bool (has L x)]∧St we ρ (zAA p lim L::F) w':=by
 obtain⟨g,hS⟩:=zA7 hS;refine Run.calls2 (n:=19) Tryz.func10 rfl rfl rfl ?_;repeat' first|(apply RO.op;apply OP.callF;rfl;rfl;rfl;exact zBl (xs:=[_]) hS.tk (by exact Rd.any) zNp len1;clear hS;rintro v w1 ⟨rfl,hS⟩;refine RO.splitB ?_ ?_<;>(intro hb;replace hb:=zOF hb))|apply Qs|apply Qr|apply Qn|refine Ql ?_|(refine Qa ?_;clear hS;intro b w1 hS)|(refine Qd ?_;clear hS;intro w1 hS)|(refine Qg ?_;clear hS;intro b w1 hS)|refine Qt ?_|refine Qf ?_|apply Qk
 · have hb':=zAV.1 hb
   obtain⟨r,m,cap,spare,g1,g2,g3,g4,hS⟩:=zCE hS.tk;repeat' first|apply Qn|refine Ql ?_|(refine Qd ?_;clear hS;intro w1 hS)
   refine Qw Tryz.func10 ?_;refine⟨?_,zBp g1 g2 g3 g4 hS.pk⟩;simp only[tup,hb];rfl
 · refine Qw Tryz.func10 ?_
   refine⟨?_,hS.pk⟩;simp only[tup,hb,zVF g hb];rfl
theorem zFF {n:Nd}(hS:St we ρ (zAA p lim L::F) w) :
 Cl Tryz.prog 42 [pP p,ndV n] w fun v w'=>v = .tuple #[pI ((find L n).getD 0),.bool (find L n).isSome]∧St we ρ (zAA p lim L::F) w':=by
 obtain⟨r,m,cap,spare,g1,g2,g3,g4,hS⟩:=zCE hS;refine Run.calls2 (n:=19) Tryz.func42 rfl rfl rfl ?_;repeat' first|apply Qs|apply Qr|apply Qn|refine Ql ?_|(refine Qx ?_;clear hS;intro b w1 hS)
 refine Run.regionQ_of hS (by rfl) (by kernel_rfl) ?_;clear hS;have hfound:zFk (pI 0) ((find L n).map (fun r:Nat=>(r,Value.int .i64 r)))=(pI ((find L n).getD 0),(find L n).isSome):=by cases find L n<;>rfl
 repeat' first|(refine RQ.still (by apply Still.lookupOk;rfl;rfl;rfl;rfl;(exact Rd.any);exact zGG zDV;exact zES;exact hfound) rfl ?_)|(refine RQ.nil ?_;(try clear hS);intro w1 hS)|refine RQ.still (by exact Still.any) rfl ?_
 repeat' first|apply Qs|apply Qr|apply Qn|refine Ql ?_
 refine Qw Tryz.func42 ?_;exact⟨rfl,zBp g1 g2 g3 g4 hS.pk⟩
theorem zVG {n:Nd}:∀u∈ndL n,one u=true:=by intro u hu;simp[ndL]at hu;rcases hu with rfl|rfl|rfl|rfl|rfl<;>rfl
theorem zB6 {n:Nd}(hS:St we ρ (zAA p lim L::F) w) :
 Cl Tryz.prog 80 [pP p,ndV n] w fun v w'=>v = .tuple #[pI (mk lim L n).2.1,pI (mk lim L n).2.2]∧St we ρ (zAA p lim (mk lim L n).1::F) w':=by
 obtain⟨r,m,cap,spare,g1,g2,g3,g4,hS⟩:=zCE hS;refine Run.calls2 (n:=62) Tryz.func80 rfl rfl rfl ?_;repeat' first|apply Qs|apply Qr|apply Qn|refine Ql ?_|(refine Qx ?_;clear hS;intro b w1 hS)
 refine Run.regionQ_of hS (by rfl) (by kernel_rfl) ?_;clear hS;have hfound:zFk (pI 0) ((find L n).map (fun r:Nat=>(r,Value.int .i64 r)))=(pI ((find L n).getD 0),(find L n).isSome):=by cases find L n<;>rfl
 repeat' first|(refine RQ.still (by apply Still.lookupOk;rfl;rfl;rfl;rfl;(exact Rd.any);exact zGG zDV;exact zES;exact hfound) rfl ?_)|(refine RQ.nil ?_;(try clear hS);intro w1 hS)|refine RQ.still (by exact Still.any) rfl ?_
 replace hS:=zBp g1 g2 g3 g4 (hS.picks (σ':=zHB p lim L r m cap spare (Row b (ndL n) 36::F)) (by focus((repeat(first|apply Picks.all|apply Picks.nil|(refine Picks.cons (by repeat(first|apply Take.head|apply Take.tail)) ?_)|apply Picks.drop));done)));clear hfound g1 g2 g3 g4;cases hf:find L n with
 | some i =>
   repeat' first|(apply RO.op;apply OP.callF;rfl;rfl;rfl;exact zIG hS.tk;clear hS;rintro v w1 ⟨rfl,hS⟩;refine RO.splitB ?_ ?_<;>intro hb)|apply Qs|apply Qr|apply Qn|refine Ql ?_|refine Qt ?_|refine Qf ?_|apply Qb
   · have hmk:mk lim L n=(L,(i:Int),0):=by simp[mk,hb,hf]
     refine Qw Tryz.func80 ?_;rw[hmk];exact Xp
   · have hmk:mk lim L n=(L,0,1):=by simp[mk,hb]
     refine Qw Tryz.func80 ?_;rw[hmk];exact Xp
 | none =>
   repeat' first|(apply RO.op;apply OP.callF;rfl;rfl;rfl;exact zIG hS.tk;clear hS;rintro v w1 ⟨rfl,hS⟩;refine RO.splitB ?_ ?_<;>intro hb)|apply Qs|apply Qr|apply Qn|refine Ql ?_|refine Qt ?_|refine Qf ?_|apply Qb
   rotate_left
   · have hmk:mk lim L n=(L,0,1):=by simp[mk,hb]
     refine Qw Tryz.func80 ?_;rw[hmk];exact Xp
   obtain⟨r,m,cap,spare,g1,g2,g3,g4,hS⟩:=zCE hS;refine Run.regionQ_of hS (by rfl) (by kernel_rfl) ?_;clear hS;repeat' first|(refine RQ.split ?_ ?_<;>intro hc<;>try exact No)|(refine RQ.nil ?_;(try clear hS);intro w1 hS)|refine RQ.still (by exact Still.any) rfl ?_|apply Qs|apply Qr|apply Qn|refine Ql ?_|refine Qt ?_|refine Qf ?_|apply Qk|apply Qi
   · have hmk:mk lim L n=(L,0,3):=by simp[mk,hb,hf,show lim≤L.length by omega]
     refine Qw Tryz.func80 ?_;rw[hmk];exact⟨rfl,zBp g1 g2 g3 g4 hS.pk⟩
   have hll:L.length<lim:=by omega
   have hmk:mk lim L n=(L++[n],(L.length:Int),0):=by simp[mk,hb,hf,show ¬lim≤L.length by omega]
   rw[hmk];have hlim:=g1.lim;refine Run.regionH_of hS (.cons_cons _ (.cons_cons _ (.cons _ (List.Sublist.refl _)))) (by rfl) (by rfl) (by rfl) ?_;clear hS;intro w1 hS;repeat' first|(refine Yt 0 0 ?_)|(refine Yt 1 1 ?_)|(refine Yl 3 2 ?_)|(refine Yl 7 3 ?_)|(refine Yl 15 4 ?_)|(refine Yt 31 5 ?_)|(refine Yt 63 6 ?_)|(refine Yl 127 7 ?_)|(refine Yl 255 8 ?_)|(refine Yt 511 9 ?_)|(refine Za 1023 10 ?_)|(refine Jo ?_)|(refine Yd 2047 ?_)|(refine RH.relist (listed':=bm 11 0) (by kernel_rfl) ?_)|(apply OP.mapUpdate hS;rfl;rfl;rfl;rfl;exact An;exact zGG zDV;exact zMO;exact zNy hf;clear hS;intro w1 hS;refine Xh ?_)
   have hS:St we ρ (Vec 36 5 (.slice (some ⟨r,0,none⟩) L.length cap) L.length (flat L)::Row p [pI lim,.slice (some ⟨r,0,none⟩) L.length cap,.map (some m)] 73 ::
    Blk m (.map (zDW (L++[n])).toArray (L++[n]).length)::Row b (ndL n) 36::F) w1 :=
    zBF (l:=flat L++spare) hS.pk g2 g3 (by rw[List.length_append,zFl,g4];omega) (by rw[Nat.mul_comm,← zFl];exact List.take_left)
   repeat(apply Qs)
   refine Run.regionH_of hS (.cons _ (.cons _ (List.Sublist.refl _))) (by rfl) (by rfl) (by rfl) ?_;clear hS;intro w1 hS;repeat' first
    | (refine Yt 0 0 ?_)
    | (refine Yt 1 1 ?_)
    | (refine Yt 3 2 ?_)
    | (refine Yl 7 3 ?_)
    | (refine Yl 15 5 ?_)
    | (refine Zb 47 4 6 ?_ ?_)
    | (refine Jo ?_)
    | (refine Za 63 6 ?_)
    | (refine Za 127 7 ?_)
    | (refine Yt 255 8 ?_)
    | (refine Yl 511 9 ?_)
    | (refine Za 1023 10 ?_)
    | (refine Yd 2047 ?_)
    | (refine Za 111 4 ?_)
    | (refine RH.relist (listed':=bm 11 0) (by kernel_rfl) ?_)
    | (apply OP.append (size:=5) (bytes:=40) (k:=1) (news:=ndL n) hS;rfl;rfl;rfl;rfl;rfl;rfl;rfl;rfl;exact(by omega);exact An;(exact Rd.any);rfl;rfl;exact zVG;(exact(by unfold maxLen;omega));(exact(by omega));rfl
       clear hS;intro v' w1 hS;obtain⟨-,⟨-,hz,-⟩|⟨r',cap',spare',rfl,k1,k2,k3,hS⟩⟩:=zBP hS
       · exact absurd hz (by omega)
       refine Xh ?_)
    | (refine Od ?_;clear hS;intro w1 hS;refine Xh ?_)
    | (refine Og ?_;clear hS;intro b w1 hS;refine Xh ?_)
    | (refine Ol (Xh ?_))
   all_goals
    repeat' first|apply Qs|apply Qr|apply Qn|refine Ql ?_
    refine Qw Tryz.func80 ?_;have e1:L.length+1=(L++[n]).length:=by simp
    show _∧St we ρ (zAA p lim (L++[n])::F) _;refine⟨?_,zBp (r:=r') (m:=m) (cap:=cap') (spare:=spare') (g1.snoc hb hf hll) (by rw[← e1];exact k1) k2 (by rw[k3,e1];omega) ?_⟩
    · simp[tup]
    · rw[e1,← zSK]at hS
      exact hS.pk
theorem zV0 {f:Int→Bool}{x y:Int}(h:[x,y].all f=true):f x=true∧f y=true:=by simpa using h
theorem zVC {f:Int→Bool}{x y:Int}(h:[x,y].all f=false):¬(f x=true∧f y=true):=by
 intro⟨h1,h2⟩;simp[h1,h2]at h
theorem zH9 {x y:Int}(hS:St we ρ (zAA p lim L::F) w) :
 Cl Tryz.prog 153 [pP p,pI x,pI y] w fun v w'=>v = .tuple #[pI (share lim L x y).2.1,pI (share lim L x y).2.2]∧St we ρ (zAA p lim (share lim L x y).1::F) w':=by
 refine Run.calls3 (n:=55) Tryz.func153 rfl rfl rfl ?_;repeat' first|(apply RO.op;apply OP.callF;rfl;rfl;rfl;exact zBl (xs:=[_,_]) hS.tk (by exact Rd.any) zTq len2;clear hS;rintro v w1 ⟨rfl,hS⟩;refine RO.splitB ?_ ?_<;>intro hb)|apply Qs|apply Qr|apply Qn|refine Ql ?_|(refine Qg ?_;clear hS;intro b w1 hS)|refine Qt ?_|refine Qf ?_|apply Qk
 rotate_left
 · have hsh:share lim L x y=(L,0,1):=by unfold share;rw[if_neg (zVC hb)]
   refine Qw Tryz.func153 ?_;rw[hsh];exact Xp
 obtain⟨hx,hy⟩:=zV0 hb;have hy':=zAV.1 hy;obtain⟨r,m,cap,spare,g1,g2,g3,g4,hS⟩:=zCE hS;repeat' first|apply Qs|apply Qr|(apply Rs<;>intro hc<;>try exact No)|apply Qn|refine Ql ?_|refine Qt ?_|refine Qf ?_|apply Qb
 all_goals replace hS:=zBp g1 g2 g3 g4 hS
 · have hsh:share lim L x y=mk lim L ⟨4,0,x,y,0⟩:=by unfold share;rw[if_pos ⟨hx,hy⟩,if_pos (by assumption)]
   repeat' first|(apply RO.op;apply OP.callF;rfl;rfl;rfl;exact zB6 (n:=⟨4,0,x,y,0⟩) hS.tk;clear hS;rintro v w1 ⟨rfl,hS⟩)|apply Qn|refine Ql ?_
   refine Qw Tryz.func153 ?_;rw[hsh];exact Xp
 · repeat' first|(apply RO.op;apply OP.callF;rfl;rfl;rfl;exact zGe hS.tk;clear hS;rintro v w1 ⟨rfl,hS⟩)|(apply RO.op;apply OP.callF;rfl;rfl;rfl;exact zB6 (n:=⟨3,0,x,(nd L y).a,0⟩) hS.tk;clear hS;rintro v w1 ⟨rfl,hS⟩)|(apply RO.op;apply OP.callF;rfl;rfl;rfl;exact zB6 (n:=⟨3,0,(nd L y).a,x,0⟩) hS.tk;clear hS;rintro v w1 ⟨rfl,hS⟩)|apply Qs|apply Qr|(apply Rs<;>intro hc<;>try exact No)|apply Qn|refine Ql ?_|refine Qt ?_|refine Qf ?_|apply Qk|apply Qi
   · have hsh:share lim L x y=mk lim L ⟨3,0,(nd L y).a,x,0⟩:=by
      unfold share;rw[if_pos ⟨hx,hy⟩,if_neg (by omega),if_pos (by omega)]
     refine Qw Tryz.func153 ?_;rw[hsh];exact Xp
   · have hsh:share lim L x y=mk lim L ⟨3,0,x,(nd L y).a,0⟩:=by
      unfold share;rw[if_pos ⟨hx,hy⟩,if_neg (by omega),if_neg (by omega)]
     refine Qw Tryz.func153 ?_;rw[hsh];exact Xp
end
section
variable {we w:World}{ρ:List (Nat × Obj)}{σ F:List HP}{p lim:Nat}{L:List Nd}
theorem zU3 (limit:Int):(if 65536<(if limit<1 then 1 else limit)then 65536 else(if limit<1 then 1 else limit))=((room limit:Nat):Int):=by
 unfold room;split<;>split<;>omega
theorem zRI (limit:Int):Good (room limit) [Nd.z]:=zOp (by unfold room;omega) (by unfold room;omega)
theorem zRc {limit:Int}(hS:St we ρ σ w) :
 Cl Tryz.prog 31 [pI limit] w fun v w'=>∃p,v = pP p∧St we ρ (zAA p (room limit) [Nd.z] :: σ) w':=by
 refine Run.calls1 (n:=13) Tryz.func31 rfl rfl rfl ?_;repeat' first|(refine Ql ?_ (h:=by apply Still.maxI;rfl;rfl;rfl))|(refine Ql ?_ (h:=by apply Still.minI;rfl;rfl;exact zU3 limit))|(apply RO.op;apply OP.insert hS;rfl;rfl;rfl;rfl;exact An;exact zGG (n:=Nd.z) (es:=[]) (by simp);(exact(by simp));rfl;clear hS;intro w1 hS)|apply Qs|apply Qr|apply Qn|refine Ql ?_|(refine Qx ?_;clear hS;intro b w1 hS)|(refine Qg ?_;clear hS;intro b w1 hS)|(refine Qp ?_;clear hS;intro b w1 hS)
 refine Qw Tryz.func31 ?_;rename_i r _ m _ _;refine⟨b,rfl,zBp (r:=r) (m:=m) (cap:=1) (spare:=[]) (zRI limit) (by simp) (by unfold maxLen;omega) (by simp) ?_⟩;exact hS.pk
end
section
variable {we w:World}{ρ:List (Nat × Obj)}{σ F:List HP}{p lim:Nat}{L:List Nd}{a:Value}
theorem zEY {n:Nd}{L':List Nd}{x e:Int}(h:mk lim L n=(L',x,e))(hS:St we ρ (zAA p lim L::F) w) :
 Cl Tryz.prog 80 [pP p,ndV n] w fun v w'=>v = .tuple #[pI x,pI e]∧St we ρ (zAA p lim L'::F) w':=by
 have:=zB6 (n:=n) hS;rwa [h]at this
theorem zVp {n:Nd}{r:Option Nat}(h:find L n=r)(hS:St we ρ (zAA p lim L::F) w) :
 Cl Tryz.prog 42 [pP p,ndV n] w fun v w'=>v = .tuple #[pI (r.getD 0),.bool r.isSome]∧St we ρ (zAA p lim L::F) w':=by
 have:=zFF (n:=n) hS;rwa [h]at this
theorem zUX {x y:Int}{t:Bool}{b cap:Nat}{el:TypeId}{fr:Nat × Nat}(h:[x,y].all (has L)=t)(hS:St we ρ (zAA p lim L::F) w)(hr:Rd ρ F b (.cells [pI x,pI y].toArray el fr)) :
 Cl Tryz.prog 22 [pP p,.slice (some ⟨b,0,none⟩) 2 cap] w fun v w'=>v = .bool t∧St we ρ (zAA p lim L::F) w':=by
 have:=zBl (xs:=[x,y]) (cap:=cap) hS hr zTq len2;rwa [h]at this
theorem zUY {x:Int}{t:Bool}{b cap:Nat}{el:TypeId}{fr:Nat × Nat}(h:has L x=t)(hS:St we ρ (zAA p lim L::F) w)(hr:Rd ρ F b (.cells [pI x].toArray el fr)) :
 Cl Tryz.prog 22 [pP p,.slice (some ⟨b,0,none⟩) 1 cap] w fun v w'=>v = .bool t∧St we ρ (zAA p lim L::F) w':=by
 have:=zBl (xs:=[x]) (cap:=cap) hS hr zNp len1;have h2:[x].all (has L)=t:=by simpa using h
 rwa [h2]at this
end
end Go.Proofs.YtcikdogkkgefcaaGreatDoor
