/- The layer of recipes in the program: the terms that steps made. The layer of recipes in the program: what is taken, what is built. append of a slice that is read alone, empty or not. -/
import Derived.Test.YtcikdogkkgefcaaGreatDoorMA11
namespace Go.Proofs.YtcikdogkkgefcaaGreatDoor
set_option maxRecDepth 8000
set_option maxHeartbeats 16000000
set_option linter.unusedVariables false
set_option linter.unusedSimpArgs false
open Go Go.RowKit
section
variable {we w:World}{ρ:List (Nat × Obj)}{σ F:List HP}{kb p lim cb:Nat}{L:List Nd}{K:Int→Bool}{u v:Value}{heard made:List Int}
theorem zLJ {xs:List Int}{q cq capm:Nat}{pm:Option Addr}{cs:List Value}{G:List HP}(hml:made.length≤200000)(hxl:xs.length≤3)(hq:Rd ρ G q (.cells cs.toArray 3 (0,0)))(hcs:∀(i:Nat) (h:i<xs.length),cs[i]? = some (pI xs[i]))
 (hrd:∀x,ahd made x=true→∃g cells,pm=some ⟨g,0,none⟩∧Rd ρ G g (.cells (List.toArray cells) 3 (0,0))∧cells[x.toNat]? = some (pI (mde made x)))
 (hS:St we ρ (Row cb [pP p,pP kb,.slice pm made.length capm] 253::G) w) :
 Cl Tryz.prog 201 [pP cb,.slice (some ⟨q,0,none⟩) xs.length cq] w
  fun v w'=>(xs.all (ahd made)=true∧∃ov,v = .tuple #[ov,.bool true]∧St we ρ (Vec 3 1 ov (xs.map (mde made)).length ((xs.map (mde made)).flatMap intL)::Row cb [pP p,pP kb,.slice pm made.length capm] 253::G) w') ∨
   (xs.all (ahd made)=false∧v = .tuple #[.slice none 0 0,.bool false]∧St we ρ (Row cb [pP p,pP kb,.slice pm made.length capm] 253::G) w'):=by
 refine Run.calls2 (n:=38) Tryz.func201 rfl rfl rfl ?_;repeat' first|apply Qs|apply Qr|apply Qn|refine Ql ?_|apply Qb
 refine Run.while (fun z:Nat × Value=>[(0,pP cb),(6,z.2),(9,.slice (some ⟨q,0,none⟩) xs.length cq),(10,pI xs.length),(11,pI z.1)])
  (fun z w=>z.1≤xs.length∧(xs.take z.1).all (ahd made)=true∧St we ρ (Vec 3 1 z.2 ((xs.take z.1).map (mde made)).length (((xs.take z.1).map (mde made)).flatMap intL)::Row cb [pP p,pP kb,.slice pm made.length capm] 253::G) w) (fun z=>xs.length - z.1) (0,.slice none 0 0)
  ⟨by simp,by simp,zAh hS⟩ (by exact Sb) ?_
 clear hS;rintro⟨i,ov⟩ w ⟨hi,hall,hS⟩ ih;simp only at hi hall hS ih ⊢;by_cases hlt:i<xs.length
 · have hci:=hcs i hlt
   have e0:xs.take (i+1)=xs.take i++[xs[i]]:=List.take_succ_eq_append_getElem hlt;have hmem:xs[i]∈xs:=List.getElem_mem hlt;generalize xs[i]=x at hci e0 hmem;cases hx:ahd made x with
   | false =>
     have hno:xs.all (ahd made)=false:=by
      rw[List.all_eq_false];exact⟨x,hmem,by rw[hx];simp⟩
     have hx2:x<0∨(0≤x∧(made.length:Int)≤x):=by
      have:¬(0≤x∧x<made.length):=fun h=>by rw[zFy.2 h]at hx;cases hx
      omega
     rcases hx2 with hx2|hx2
     all_goals
      repeat' first|(refine Ql ?_ (h:=by apply Still.load;rfl;rfl;(exact Rd.any);exact hci))|apply Qs|apply Qr|(apply Rs<;>intro hc<;>try exact No)|apply Qn|refine Ql ?_|refine Qy ?_|refine Qz ?_|refine Qt ?_|apply Qk|apply Qb
      refine Qw Tryz.func201 ?_;exact .inr ⟨hno,rfl,hS.pk⟩
   | true =>
     obtain⟨g,cells,rfl,hrg,hval⟩:=hrd x hx;have hx2:=zFy.1 hx;have hol:((xs.take i).map (mde made)).length≤3:=by rw[List.length_map,List.length_take];omega
     have e1:(xs.take (i+1)).map (mde made)=(xs.take i).map (mde made)++[mde made x]:=by rw[e0,List.map_append];rfl
     have e2:(xs.take (i+1)).all (ahd made)=true:=by rw[e0,List.all_append,hall];simp[hx]
     generalize (xs.take i).map (mde made)=out at hS hol e1;generalize mde made x=y at hval e1;repeat' first
      | (refine Ql ?_ (h:=by apply Still.load;rfl;rfl;(exact Rd.any);exact hci))
      | (refine Ql ?_ (h:=by apply Still.load;rfl;rfl;(exact Rd.any);exact hval))
      | (apply RO.op;apply OP.append (size:=1) (bytes:=8) (k:=1) (news:=[.int .i64 y]) hS;rfl;rfl;rfl;rfl;rfl;rfl;rfl;rfl;exact(by omega);exact An;(exact Rd.any);rfl;rfl;exact(by intro v hv;simp at hv;subst hv;rfl);(exact(by unfold maxLen;omega));(exact(by omega));rfl
         clear hS;intro v2 w1 hS)
      | apply Qs
      | apply Qr
      | (apply Rs<;>intro hc<;>try exact No)
      | apply Qn
      | refine Ql ?_
      | (refine Qg ?_;clear hS;intro b w1 hS)
      | refine Qy ?_
      | refine Qt ?_
      | refine Qf ?_
      | apply Qk
      | apply Qb
      | apply Qi
     refine Run.weaken (by exact Sb) (ih (i+1,v2) _ ⟨by simp;omega,e2,?_⟩ (by simp;omega));simp only[e1];rw[List.length_append,List.flatMap_append];exact hS.pk
 · obtain rfl:i=xs.length:=by omega
   rw[List.take_of_length_le (Nat.le_refl _)]at hS hall;repeat' first|apply Qs|apply Qr|(apply Rs<;>intro hc<;>try exact No)|apply Qn|refine Ql ?_|refine Qf ?_|refine Qe ?_
   refine Qw Tryz.func201 ?_;exact .inl ⟨hall,_,rfl,hS.pk⟩
theorem zJS {xs:List Int}{q cq:Nat}{mv:Value}{cs:List Value}(hml:made.length≤200000)(hxl:xs.length≤3)(hq:Rd ρ F q (.cells cs.toArray 3 (0,0)))(hcs:∀(i:Nat) (h:i<xs.length),cs[i]? = some (pI xs[i]))
 (hS:St we ρ (Row cb [pP p,pP kb,mv] 253::Vec 3 1 mv made.length (made.flatMap intL)::F) w) :
 Cl Tryz.prog 201 [pP cb,.slice (some ⟨q,0,none⟩) xs.length cq] w
  fun v w'=>(xs.all (ahd made)=true∧∃ov,v = .tuple #[ov,.bool true]∧St we ρ (Vec 3 1 ov (xs.map (mde made)).length ((xs.map (mde made)).flatMap intL)::Row cb [pP p,pP kb,mv] 253::Vec 3 1 mv made.length (made.flatMap intL)::F) w') ∨
   (xs.all (ahd made)=false∧v = .tuple #[.slice none 0 0,.bool false]∧St we ρ (Row cb [pP p,pP kb,mv] 253::Vec 3 1 mv made.length (made.flatMap intL)::F) w'):=by
 obtain⟨_,⟨rfl,h0,hnil,hS2⟩|⟨g,capm,sp,rfl,c1,c2,c3,hS2⟩⟩:=zBP (hS.take (.tail .head))
 · have hmade:made=[]:=List.eq_nil_of_length_eq_zero h0
   subst hmade;refine(zLJ (pm:=none) (capm:=0) (made:=[]) hml hxl hq hcs (fun x hx=>by rw[zFy]at hx;simp at hx;omega) hS2).mono ?_;rintro v w1 (⟨h1,ov,rfl,h2⟩|⟨h1,rfl,h2⟩)
   · exact .inl ⟨h1,ov,rfl,((zAh h2).take (.tail (.tail .head))).picks (by focus((repeat(first|apply Picks.all|apply Picks.nil|(refine Picks.cons (by repeat(first|apply Take.head|apply Take.tail)) ?_)|apply Picks.drop));done))⟩
   · exact .inr ⟨h1,rfl,((zAh h2).take (.tail .head))⟩
 · have hcells:∀x,ahd made x=true→(made.flatMap intL++sp)[x.toNat]? = some (pI (mde made x)):=fun x hx=>by
    obtain⟨h2,e⟩:=zIX hx;rw[e,zB4,List.getElem?_append_left (by simpa using h2)];simp[h2]
   have hlen:(made.flatMap intL++sp).length=capm*1:=by
    have:=c3;rw[List.length_append,zB4,List.length_map];omega
   have htake:(made.flatMap intL++sp).take (made.length*1)=made.flatMap intL:=by
    rw[Nat.mul_one,zB4];exact List.take_left' (by simp)
   have shut:∀{w1:World} {G:List HP},St we ρ (Row g (made.flatMap intL++sp) 3::G) w1→St we ρ (Vec 3 1 (.slice (some ⟨g,0,none⟩) made.length capm) made.length (made.flatMap intL)::G) w1 :=
    fun h=>zBF (size:=1) (xs:=made.flatMap intL) h c1 c2 hlen htake
   refine(zLJ (pm:=some ⟨g,0,none⟩) (capm:=capm) hml hxl (hq.tail) hcs (fun x hx=>⟨g,_,rfl,.own .head,hcells x hx⟩) (hS2.take (.tail .head))).mono ?_;rintro v w1 (⟨h1,ov,rfl,h2⟩|⟨h1,rfl,h2⟩)
   · exact .inl ⟨h1,ov,rfl,(shut (h2.take (.tail (.tail .head)))).picks (by focus((repeat(first|apply Picks.all|apply Picks.nil|(refine Picks.cons (by repeat(first|apply Take.head|apply Take.tail)) ?_)|apply Picks.drop));done))⟩
   · exact .inr ⟨h1,rfl,(shut (h2.take (.tail .head))).take (.tail .head)⟩
theorem zS5 {xs:List Int}{q cq k:Nat}{mv:Value}{cs:List Value}(hk:xs.length=k)(hml:made.length≤200000)(hxl:xs.length≤3)(hall:xs.all (ahd made)=true)(hq:Rd ρ F q (.cells cs.toArray 3 (0,0)))(hcs:∀(i:Nat) (h:i<xs.length),cs[i]? = some (pI xs[i]))
 (hS:St we ρ (Row cb [pP p,pP kb,mv] 253::Vec 3 1 mv made.length (made.flatMap intL)::F) w) :
 Cl Tryz.prog 201 [pP cb,.slice (some ⟨q,0,none⟩) k cq] w
  fun v w'=>∃ov,v = .tuple #[ov,.bool true]∧St we ρ (Vec 3 1 ov (xs.map (mde made)).length ((xs.map (mde made)).flatMap intL)::Row cb [pP p,pP kb,mv] 253::Vec 3 1 mv made.length (made.flatMap intL)::F) w':=by
 subst hk;refine(zJS hml hxl hq hcs hS).mono ?_;rintro v w1 (⟨_,h⟩|⟨h,_⟩)
 · exact h
 · rw[hall]at h;cases h
theorem zUk {xs:List Int}{q cq k:Nat}{mv:Value}{cs:List Value}(hk:xs.length=k)(hml:made.length≤200000)(hxl:xs.length≤3)(hall:xs.all (ahd made)=false)(hq:Rd ρ F q (.cells cs.toArray 3 (0,0)))(hcs:∀(i:Nat) (h:i<xs.length),cs[i]? = some (pI xs[i]))
 (hS:St we ρ (Row cb [pP p,pP kb,mv] 253::Vec 3 1 mv made.length (made.flatMap intL)::F) w) :
 Cl Tryz.prog 201 [pP cb,.slice (some ⟨q,0,none⟩) k cq] w
  fun v w'=>v = .tuple #[.slice none 0 0,.bool false]∧St we ρ (Row cb [pP p,pP kb,mv] 253::Vec 3 1 mv made.length (made.flatMap intL)::F) w':=by
 subst hk;refine(zJS hml hxl hq hcs hS).mono ?_;rintro v w1 (⟨h,_⟩|⟨_,h⟩)
 · rw[hall]at h;cases h
 · exact h
end
section
variable {we w:World}{ρ:List (Nat × Obj)}{σ F:List HP}{kb p lim cb:Nat}{L:List Nd}{K:Int→Bool}{u v mv lv:Value}{heard made:List Int}
theorem zMr {op x y:Int}{g nl cl0:Nat}{cells:List Value}(hop:op=10∨op=11∨op=12)(hnl:1≤nl)(hnl2:op=12→2≤nl)(hl:Rd ρ F g (.cells cells.toArray 3 (0,0)))(l0:cells[0]? = some (pI x))(l1:op=12→cells[1]? = some (pI y))
 (hS:St we ρ (Row cb [pP p,pP kb,mv] 253::zAA p lim L::F) w) :
 Cl Tryz.prog 204 [pP cb,pI op,.slice (some ⟨g,0,none⟩) nl cl0] w
  fun v w'=>v = .tuple #[pI (zOM L op x y).1,pI (zOM L op x y).2]∧St we ρ (Row cb [pP p,pP kb,mv] 253::zAA p lim L::F) w':=by
 refine Run.calls3 (n:=56) Tryz.func204 rfl rfl rfl ?_;repeat' first|apply Qs|apply Qr|apply Qn|refine Ql ?_
 replace hS:=hS.take (A:=zAA p lim L) An;refine(Run.regionH_cut (fun b:Nat=>Row b (ndL (nd L x)) 36::Row cb [pP p,pP kb,mv] 253::zAA p lim L::F)
  (fun b=>[(1,pI op),(2,.slice (some ⟨g,0,none⟩) nl cl0),(8,pP b)])
  hS (List.Sublist.refl _) (by rfl) (by rfl) (by rfl) ?_ ?_)
 · clear hS
   intro w1 hS;refine RH.relist (listed':=bm 14 0) (by kernel_rfl) ?_;repeat' first|refine Yt 0 0 ?_|refine Yt 1 1 ?_|refine Yl 3 2 ?_|(refine Yt 7 3 ?_ (h:=by first|(apply Still.load;rfl;rfl;(exact Rd.any);exact l0)|(apply Still.load;rfl;rfl;(exact Rd.any);exact l1)|(apply Still.load;rfl;rfl;(exact Rd.any);exact l2)|exact Still.an))|refine Yt 15 4 ?_|(refine Yt 31 5 ?_ (h:=by first|exact Sx|exact Still.any))|(refine Yt 63 6 ?_ (h:=by first|(apply Still.load;rfl;rfl;(exact Rd.any);exact l0)|(apply Still.load;rfl;rfl;(exact Rd.any);exact l1)|(apply Still.load;rfl;rfl;(exact Rd.any);exact l2)|exact Still.an))|refine Yt 255 8 ?_|refine Yt 511 9 ?_|refine Yt 1023 10 ?_|refine Yt 8191 13 ?_|refine Yt 2303 8 ?_|refine Yt 2559 9 ?_|refine Yt 3071 10 ?_|(refine Ov 10 (zA0 hS.tk) ?_;clear hS;intro w1 hS;refine Xh ?_)|(refine Oa ?_;clear hS;intro b w1 hS;refine Xh ?_)|(refine Od ?_;clear hS;intro w1 hS;refine Xh ?_)|refine Jo ?_|refine Zb 127 7 11 ?_ ?_|refine Za 2047 11 ?_|refine Za 4095 12 ?_|refine Za 2175 7 ?_|(refine Yd 16383 ?_;exact⟨_,Sb,hS.pk⟩)
 · clear hS
   rintro b w1 hS;unfold zOM;rcases hop with rfl|rfl|rfl
   · rw[if_neg (by omega)]
     by_cases h8:(nd L x).k=8
     · rw[if_pos h8,if_pos rfl]
       repeat' first|(refine Run.regionQ_of hS (by rfl) (by kernel_rfl) ?_;clear hS)|(refine RQ.split ?_ ?_<;>intro hc<;>try exact No)|(refine RQ.nil ?_;(try clear hS);intro w1 hS)|refine RQ.still (by exact Still.any) rfl ?_|refine RQ.no rfl rfl rfl rfl ?_|refine RQ.noUndef rfl rfl rfl ?_|apply Qs|apply Qr|(apply Rs<;>intro hc<;>try exact No)|apply Qn|refine Ql ?_|refine Qy ?_|refine Qt ?_|refine Qf ?_|apply Qb
       refine Qw Tryz.func204 ?_;exact Xp
     · rw[if_neg h8]
       repeat' first|apply Qs|apply Qr|(apply Rs<;>intro hc<;>try exact No)|apply Qn|refine Ql ?_|refine Qy ?_|refine Qt ?_|apply Qk|apply Qb
       refine Qw Tryz.func204 ?_;exact Xp
   · rw[if_neg (by omega)]
     by_cases h8:(nd L x).k=8
     · rw[if_pos h8,if_neg (by omega)]
       repeat' first|(refine Run.regionQ_of hS (by rfl) (by kernel_rfl) ?_;clear hS)|(refine RQ.split ?_ ?_<;>intro hc<;>try exact No)|(refine RQ.nil ?_;(try clear hS);intro w1 hS)|refine RQ.still (by exact Still.any) rfl ?_|refine RQ.no rfl rfl rfl rfl ?_|refine RQ.noUndef rfl rfl rfl ?_|apply Qs|apply Qr|(apply Rs<;>intro hc<;>try exact No)|apply Qn|refine Ql ?_|refine Qy ?_|refine Qt ?_|refine Qf ?_|apply Qb
       refine Qw Tryz.func204 ?_;exact Xp
     · rw[if_neg h8]
       repeat' first|apply Qs|apply Qr|(apply Rs<;>intro hc<;>try exact No)|apply Qn|refine Ql ?_|refine Qy ?_|refine Qt ?_|apply Qk|apply Qb
       refine Qw Tryz.func204 ?_;exact Xp
   · rw[if_pos rfl]
     have hnl3:=hnl2 rfl;have l1':=l1 rfl;by_cases h7:(nd L x).k=7∧(nd L x).a=y
     · rw[if_pos h7]
       obtain⟨h7,ha⟩:=h7;repeat' first|(refine Run.regionQ_of hS (by rfl) (by kernel_rfl) ?_;clear hS)|(refine RQ.still (by apply Still.load;rfl;rfl;(exact Rd.any);exact l1') rfl ?_)|(refine RQ.split ?_ ?_<;>intro hc<;>try exact No)|(refine RQ.nil ?_;(try clear hS);intro w1 hS)|refine RQ.still (by exact Still.any) rfl ?_|refine RQ.yes rfl rfl ?_|apply Qs|apply Qr|(apply Rs<;>intro hc<;>try exact No)|apply Qn|refine Ql ?_|refine Qz ?_|refine Qf ?_|apply Qk|apply Qb|apply Qi
       refine Qw Tryz.func204 ?_;exact Xp
     · rw[if_neg h7]
       by_cases h77:(nd L x).k=7
       · have hay:¬(nd L x).a=y:=fun h=>h7 ⟨h77,h⟩
         repeat' first|(refine Run.regionQ_of hS (by rfl) (by kernel_rfl) ?_;clear hS)|(refine RQ.still (by apply Still.load;rfl;rfl;(exact Rd.any);exact l1') rfl ?_)|(refine RQ.split ?_ ?_<;>intro hc<;>try exact No)|(refine RQ.nil ?_;(try clear hS);intro w1 hS)|refine RQ.still (by exact Still.any) rfl ?_|refine RQ.yes rfl rfl ?_|apply Qs|apply Qr|(apply Rs<;>intro hc<;>try exact No)|apply Qn|refine Ql ?_|refine Qz ?_|refine Qt ?_|refine Qf ?_|apply Qb
         refine Qw Tryz.func204 ?_;exact Xp
       · repeat' first|(refine Run.regionQ_of hS (by rfl) (by kernel_rfl) ?_;clear hS)|(refine RQ.split ?_ ?_<;>intro hc<;>try exact No)|(refine RQ.nil ?_;(try clear hS);intro w1 hS)|refine RQ.still (by exact Still.any) rfl ?_|refine RQ.yes rfl rfl ?_|refine RQ.no rfl rfl rfl rfl ?_|apply Qs|apply Qr|(apply Rs<;>intro hc<;>try exact No)|apply Qn|refine Ql ?_|refine Qz ?_|refine Qt ?_|refine Qf ?_|apply Qb
         refine Qw Tryz.func204 ?_;exact Xp
theorem zN9 {s:Stp}{x y:Int}{g nl cl0:Nat}{cells:List Value}(hop:s.op=3)(hnl:2≤nl)(hl:Rd ρ F g (.cells cells.toArray 3 (0,0)))(l0:cells[0]? = some (pI x))(l1:cells[1]? = some (pI y))
 (hS:St we ρ (zAA p lim L::Row cb [pP p,pP kb,mv] 253::F) w) :
 Cl Tryz.prog 205 [pP cb,.agg (stpL s).toArray,.slice (some ⟨g,0,none⟩) nl cl0] w
  fun v w'=>v = .tuple #[pI (share lim L x y).2.1,pI (share lim L x y).2.2]∧St we ρ (zAA p lim (share lim L x y).1::Row cb [pP p,pP kb,mv] 253::F) w':=by
 obtain⟨op,n,z1,z2,z3⟩:=s;simp only at hop;subst hop;show Cl _ _ [_,.agg [Value.int .i64 3,Value.int .u64 n,Value.int .i64 z1,Value.int .i64 z2,Value.int .i64 z3].toArray,_] _ _;refine Run.calls3 (n:=55) Tryz.func205 rfl rfl rfl ?_;repeat' first|apply Qs|apply Qr|(apply Rs<;>intro hc<;>try exact No)|apply Qn|refine Ql ?_|(refine Qx ?_;clear hS;intro b w1 hS)|refine Qt ?_
 replace hS:=hS.take (A:=zAA p lim L) An;refine(Run.regionH_cut (fun _:Unit=>zAA p lim (share lim L x y).1::Row cb [pP p,pP kb,mv] 253::F)
  (fun _=>[(6,pI (share lim L x y).2.1),(7,pI (share lim L x y).2.2)])
  hS (.cons _ (List.Sublist.refl _)) (by rfl) (by rfl) (by rfl) ?_ ?_)
 · clear hS
   intro w1 hS;refine RH.relist (listed':=bm 15 0) (by kernel_rfl) ?_;repeat' first|refine Yt 0 0 ?_|refine Yt 1 1 ?_|refine Yl 3 2 ?_|(refine Yt 7 3 ?_ (h:=by first|(apply Still.load;rfl;rfl;(exact Rd.any);exact l0)|(apply Still.load;rfl;rfl;(exact Rd.any);exact l1)|(apply Still.load;rfl;rfl;(exact Rd.any);exact l2)|exact Still.an))|refine Yt 15 4 ?_|(refine Yt 31 5 ?_ (h:=by first|exact Sx|exact Still.any))|(refine Yt 63 6 ?_ (h:=by first|(apply Still.load;rfl;rfl;(exact Rd.any);exact l0)|(apply Still.load;rfl;rfl;(exact Rd.any);exact l1)|(apply Still.load;rfl;rfl;(exact Rd.any);exact l2)|exact Still.an))|refine Yt 127 7 ?_|(refine Yt 255 8 ?_ (h:=by first|exact Sx|exact Still.any))|(refine Yt 511 9 ?_ (h:=by first|(apply Still.load;rfl;rfl;(exact Rd.any);exact l0)|(apply Still.load;rfl;rfl;(exact Rd.any);exact l1)|(apply Still.load;rfl;rfl;(exact Rd.any);exact l2)|exact Still.an))|refine Yt 2047 11 ?_|refine Yt 4095 12 ?_|refine Yt 8191 13 ?_|refine Yt 16383 14 ?_|(refine Ov 153 (zH9 hS.tk) ?_;clear hS;intro w1 hS;refine Xh ?_)|refine Jo ?_|refine Za 1023 10 ?_|(refine Yd 32767 ?_;exact⟨(),Sb,hS.pk⟩)
 · clear hS
   rintro⟨⟩ w1 hS;refine Qw Tryz.func205 ?_;exact Xp
theorem zUI {s:Stp}{xs:List Int}{y0 y1 y2:Int}(hop:s.op≠3)(hxs:xs.length≤3)(hy0:(xs++[0,0,0])[0]? = some y0)(hy1:(xs++[0,0,0])[1]? = some y1)(hy2:(xs++[0,0,0])[2]? = some y2)
 (hS:St we ρ (zAA p lim L::Row cb [pP p,pP kb,mv] 253::Vec 3 1 lv xs.length (xs.flatMap intL)::F) w) :
 Cl Tryz.prog 205 [pP cb,.agg (stpL s).toArray,lv] w
  fun v w'=>v = .tuple #[pI (fixE (mk lim L ⟨s.op,s.n,y0,y1,y2⟩)).2.1,pI (fixE (mk lim L ⟨s.op,s.n,y0,y1,y2⟩)).2.2]∧St we ρ (zAA p lim (fixE (mk lim L ⟨s.op,s.n,y0,y1,y2⟩)).1::Row cb [pP p,pP kb,mv] 253::F) w':=by
 obtain⟨op,n,z1,z2,z3⟩:=s;simp only at hop ⊢;show Cl _ _ [_,.agg [Value.int .i64 op,Value.int .u64 n,Value.int .i64 z1,Value.int .i64 z2,Value.int .i64 z3].toArray,_] _ _;refine Run.calls3 (n:=55) Tryz.func205 rfl rfl rfl ?_;repeat' first
  | (apply RO.op;apply OP.append (size:=1) (bytes:=8) (k:=3) (news:=[.int .i64 0,.int .i64 0,.int .i64 0]) hS;rfl;rfl;rfl;rfl;rfl;rfl;rfl;rfl;exact(by omega);exact An;(exact Rd.any);rfl;rfl;exact(by intro v hv;simp at hv;subst hv;rfl);(exact(by unfold maxLen;omega));(exact(by omega));rfl
     clear hS;intro v2 w1 hS)
  | apply Qs
  | apply Qr
  | (apply Rs<;>intro hc<;>try exact No)
  | apply Qn
  | refine Ql ?_
  | (refine Qx ?_;clear hS;intro b w1 hS)
  | (refine Qg ?_;clear hS;intro b w1 hS)
  | refine Qf ?_
  | apply Qk
 rw[show xs.length+3=(xs++[0,0,0]).length from by simp,show List.flatMap intL xs++[Value.int .i64 0,Value.int .i64 0,Value.int .i64 0]=(xs++[0,0,0]).flatMap intL from by rw[List.flatMap_append];rfl]at hS;obtain⟨_,⟨_,h0,_⟩|⟨g0,cap0,sp,rfl,c1,c2,c3,hT⟩⟩:=zBP hS
 · simp at h0
 clear hS;have hS:=hT;clear hT;have hlen3:3≤(xs++[0,0,0]).length:=by simp
 have hcell:∀(j:Nat) (y:Int),(xs++[0,0,0])[j]? = some y→((xs++[0,0,0]).flatMap intL++sp)[j]? = some (pI y):=by
  intro j y h;have hj:=(List.getElem?_eq_some_iff.1 h).1;rw[zB4,List.getElem?_append_left (by rw[List.length_map];exact hj),List.getElem?_map,h];rfl
 have l0:=hcell 0 y0 hy0;have l1:=hcell 1 y1 hy1;have l2:=hcell 2 y2 hy2;generalize (xs++[0,0,0]).flatMap intL++sp=cells at hS l0 l1 l2;generalize (xs++[0,0,0]).length=nl at hlen3 hS c1 c3;replace hS:=hS.take (A:=zAA p lim L) An;refine(Run.regionH_cut (fun _:Unit=>zAA p lim (mk lim L ⟨op,n,y0,y1,y2⟩).1::Row cb [pP p,pP kb,mv] 253::F)
  (fun _=>[(8,pI (mk lim L ⟨op,n,y0,y1,y2⟩).2.1),(9,pI (mk lim L ⟨op,n,y0,y1,y2⟩).2.2)])
  hS (.cons _ (List.Sublist.refl _)) (by rfl) (by rfl) (by rfl) ?_ ?_)
 · clear hS
   intro w1 hS;refine RH.relist (listed':=bm 24 0) (by kernel_rfl) ?_;repeat' first|refine Yt 0 0 ?_|refine Yt 1 1 ?_|refine Yl 3 2 ?_|(refine Yt 7 3 ?_ (h:=by first|(apply Still.load;rfl;rfl;(exact Rd.any);exact l0)|(apply Still.load;rfl;rfl;(exact Rd.any);exact l1)|(apply Still.load;rfl;rfl;(exact Rd.any);exact l2)|exact Still.an))|refine Yl 15 4 ?_|(refine Yt 31 5 ?_ (h:=by first|(apply Still.load;rfl;rfl;(exact Rd.any);exact l0)|(apply Still.load;rfl;rfl;(exact Rd.any);exact l1)|(apply Still.load;rfl;rfl;(exact Rd.any);exact l2)|exact Still.an))|refine Yl 63 6 ?_|(refine Yt 127 7 ?_ (h:=by first|(apply Still.load;rfl;rfl;(exact Rd.any);exact l0)|(apply Still.load;rfl;rfl;(exact Rd.any);exact l1)|(apply Still.load;rfl;rfl;(exact Rd.any);exact l2)|exact Still.an))|refine Yt 255 8 ?_|(refine Yt 511 9 ?_ (h:=by first|exact Sx|exact Still.any))|(refine Yt 1023 10 ?_ (h:=by first|(apply Still.load;rfl;rfl;(exact Rd.any);exact l0)|(apply Still.load;rfl;rfl;(exact Rd.any);exact l1)|(apply Still.load;rfl;rfl;(exact Rd.any);exact l2)|exact Still.an))|refine Yt 2047 11 ?_|(refine Yt 4095 12 ?_ (h:=by first|exact Sx|exact Still.any))|(refine Yt 8191 13 ?_ (h:=by first|(apply Still.load;rfl;rfl;(exact Rd.any);exact l0)|(apply Still.load;rfl;rfl;(exact Rd.any);exact l1)|(apply Still.load;rfl;rfl;(exact Rd.any);exact l2)|exact Still.an))|refine Yt 16383 14 ?_|(refine Yt 32767 15 ?_ (h:=by first|exact Sx|exact Still.any))|(refine Yt 65535 16 ?_ (h:=by first|(apply Still.load;rfl;rfl;(exact Rd.any);exact l0)|(apply Still.load;rfl;rfl;(exact Rd.any);exact l1)|(apply Still.load;rfl;rfl;(exact Rd.any);exact l2)|exact Still.an))|(refine Yt 131071 17 ?_ (h:=by first|(apply Still.load;rfl;rfl;(exact Rd.any);exact l0)|(apply Still.load;rfl;rfl;(exact Rd.any);exact l1)|(apply Still.load;rfl;rfl;(exact Rd.any);exact l2)|exact Still.any))|refine Yt 524287 19 ?_|refine Yt 1048575 20 ?_|refine Yt 2097151 21 ?_|refine Yt 4194303 22 ?_|refine Yt 8388607 23 ?_|(refine Ov 80 (zB6 (n:=⟨op,n,y0,y1,y2⟩) hS.tk) ?_;clear hS;intro w1 hS;refine Xh ?_)|refine Jo ?_|refine Za 262143 18 ?_|(refine Yd 16777215 ?_;exact⟨(),Sb,hS.pk⟩)
 · clear hS
   rintro⟨⟩ w1 hS;unfold fixE;generalize mk lim L ⟨op,n,y0,y1,y2⟩=q at hS;obtain⟨L',x,e⟩:=q;simp only at hS ⊢;by_cases he:e=1
   · rw[if_pos he]
     repeat' first|apply Qs|apply Qr|(apply Rs<;>intro hc<;>try exact No)|apply Qn|refine Ql ?_|refine Qt ?_
     refine Qw Tryz.func205 ?_;exact Xp
   · rw[if_neg he]
     repeat' first|apply Qs|apply Qr|(apply Rs<;>intro hc<;>try exact No)|apply Qn|refine Ql ?_|refine Qf ?_|apply Qk
     refine Qw Tryz.func205 ?_;exact Xp
end
theorem zNL {s:Stp}{made:List Int}(j:Nat)(hj:j<3):((zAp s).map (mde made)++[0,0,0])[j]? = some (padS s made j):=by
 unfold padS;have:j<((zAp s).map (mde made)++[0,0,0]).length:=by simp;omega
 rw[List.getElem?_eq_getElem this,List.getD_eq_getElem?_getD,List.getElem?_eq_getElem this];rfl
theorem zSt (op n a b c:Int):∀(i:Nat) (h:i<(zAp ⟨op,n,a,b,c⟩).length),[Value.int .i64 a,Value.int .i64 b,Value.int .i64 c][i]? = some (pI (zAp ⟨op,n,a,b,c⟩)[i]):=by
 intro i h;have h3:i<3:=by rw[zI4]at h;have:=zHz op;simp only at h;omega
 have e:(zAp ⟨op,n,a,b,c⟩)[i]=[a,b,c][i]'h3:=by simp[zAp]
 rw[e];match i,h3 with
 | 0,_=>rfl
 | 1,_=>rfl
 | 2,_=>rfl
theorem tke4 {we w:World}{ρ:List (Nat × Obj)}{σ:List HP}{A1 A2 A3 A4:HP}{F1 F2 F3 F4:List HP}(h:St we ρ σ w)(t1:Take A1 σ F1)(t2:Take A2 F1 F2)(t3:Take A3 F2 F3)(t4:Take A4 F3 F4) :
 St we ρ (A4::A3::A2::A1::F4) w:=(((h.take t1).take (.tail t2)).take (.tail (.tail t3))).take (.tail (.tail (.tail t4)))
theorem tke3 {we w:World}{ρ:List (Nat × Obj)}{σ:List HP}{A1 A2 A3:HP}{F1 F2 F3:List HP}(h:St we ρ σ w)(t1:Take A1 σ F1)(t2:Take A2 F1 F2)(t3:Take A3 F2 F3) :
 St we ρ (A3::A2::A1::F3) w:=((h.take t1).take (.tail t2)).take (.tail (.tail t3))
section
variable {we w:World}{ρ:List (Nat × Obj)}{σ F:List HP}{kb p lim cb:Nat}{L:List Nd}{K:Int→Bool}{mv:Value}{heard made:List Int}
theorem zQz {s:Stp}(hn:0≤s.n∧s.n≤18446744073709551615)(hml:made.length≤200000)(hhl:heard.length≤200000)(hbad:¬zAf s∨(zAf s∧(zAp s).all (ahd made)=false))
 (hS:St we ρ (zAA p lim L::Row cb [pP p,pP kb,mv] 253::Vec 3 1 mv made.length (made.flatMap intL)::KN kb p heard K::F) w) :
 Cl Tryz.prog 150 [pP cb,.agg (stpL s).toArray] w fun v w'=>v = .tuple #[pI 0,pI 12] ∧
  St we ρ (zAA p lim L::Row cb [pP p,pP kb,mv] 253::Vec 3 1 mv made.length (made.flatMap intL)::KN kb p heard K::F) w':=by
 have hright:∀{σ:List HP} {w:World},St we ρ σ w→_:=fun {σ w} hS=>zHJ (we:=we) (ρ := ρ) (σ := σ) (w:=w) hn hS
 obtain⟨op,n,z1,z2,z3⟩:=s;replace hright:∀{σ:List HP} {w:World},St we ρ σ w→Cl Tryz.prog 200 [.agg [Value.int .i64 op,Value.int .u64 n,Value.int .i64 z1,Value.int .i64 z2,Value.int .i64 z3].toArray] w fun v w'=>v = .bool (decide (zAf ⟨op,n,z1,z2,z3⟩))∧St we ρ σ w':=hright
 show Cl _ _ [_,.agg [Value.int .i64 op,Value.int .u64 n,Value.int .i64 z1,Value.int .i64 z2,Value.int .i64 z3].toArray] _ _;rcases hbad with hr|⟨hr,hall⟩
 · simp only[decide_eq_false hr]at hright
   refine Run.calls2 (n:=97) Tryz.func150 rfl rfl rfl ?_;repeat' first|(refine Qv 200 (hright hS) ?_;clear hS;intro w1 hS)|apply Qs|apply Qr|apply Qn|refine Ql ?_|(refine Qx ?_;clear hS;intro b w1 hS)|refine Qt ?_
   refine Qw Tryz.func150 ?_;exact Xp
 · skip
   simp only[decide_eq_true hr]at hright;have hop:0≤op∧op≤13:=⟨hr.1.1,hr.1.2.1⟩
   have hparts:=zLt hop;have hlen:=zI4 ⟨op,n,z1,z2,z3⟩;have hul:=zHz op;have hal:(zAp ⟨op,n,z1,z2,z3⟩).length≤3:=by rw[hlen];exact hul
   have hargs:=zSt op n z1 z2 z3;simp only at hlen;refine Run.calls2 (n:=97) Tryz.func150 rfl rfl rfl ?_;repeat' first|(refine Qv 200 (hright hS) ?_;clear hS;intro w1 hS)|apply Qs|apply Qr|apply Qn|refine Ql ?_|(refine Qx ?_;clear hS;intro b w1 hS)|refine Qf ?_|apply Qk
   replace hS:St we ρ (Row cb [pP p,pP kb,mv] 253::Vec 3 1 mv made.length (made.flatMap intL)::zAA p lim L::KN kb p heard K::Row b [pI op,.int .u64 n,pI z1,pI z2,pI z3] 255::F) _:=hS.pk;refine(Run.regionH_cut (fun _:Unit=>Row cb [pP p,pP kb,mv] 253::Vec 3 1 mv made.length (made.flatMap intL)::zAA p lim L::KN kb p heard K::Row b [pI op,.int .u64 n,pI z1,pI z2,pI z3] 255::F)
    (fun _=>[(0,pP cb),(3,pP b),(6,.slice none 0 0),(7,.bool false)])
    hS (.cons _ (.cons _ (List.Sublist.refl _))) (by rfl) (by rfl) (by rfl) ?_ ?_)
   · clear hS
     intro w1 hS;refine RH.relist (listed':=bm 19 0) (by kernel_rfl) ?_;repeat' first|refine Yt 0 0 ?_|refine Yl 1 1 ?_|(refine Yt 3 2 ?_ (h:=by first|(apply Still.index;rfl;rfl;rfl;rfl;(exact zAi);omega;omega;(first|(simp only[Int.toNat_natCast,Nat.mul_one,Nat.zero_add,Int.reduceToNat,Nat.reduceMul,Nat.reduceAdd,Nat.zero_mul];exact rfl)|rfl);exact hparts)|(apply Still.sliceHi;rfl;rfl;rfl;(exact zAi);omega;omega;rfl)|exact Still.an))|refine Yl 7 3 ?_|(refine Yt 15 4 ?_ (h:=by first|(apply Still.index;rfl;rfl;rfl;rfl;(exact zAi);omega;omega;(first|(simp only[Int.toNat_natCast,Nat.mul_one,Nat.zero_add,Int.reduceToNat,Nat.reduceMul,Nat.reduceAdd,Nat.zero_mul];exact rfl)|rfl);exact hparts)|(apply Still.sliceHi;rfl;rfl;rfl;(exact zAi);omega;omega;rfl)|exact Still.an))|refine Yl 31 5 ?_|(refine Yt 63 6 ?_ (h:=by first|(apply Still.index;rfl;rfl;rfl;rfl;(exact zAi);omega;omega;(first|(simp only[Int.toNat_natCast,Nat.mul_one,Nat.zero_add,Int.reduceToNat,Nat.reduceMul,Nat.reduceAdd,Nat.zero_mul];exact rfl)|rfl);exact hparts)|(apply Still.sliceHi;rfl;rfl;rfl;(exact zAi);omega;omega;rfl)|exact Still.an))|refine Yl 127 9 ?_|(refine Yt 639 10 ?_ (h:=by first|(apply Still.index;rfl;rfl;rfl;rfl;(exact zAi);omega;omega;(first|(simp only[Int.toNat_natCast,Nat.mul_one,Nat.zero_add,Int.reduceToNat,Nat.reduceMul,Nat.reduceAdd,Nat.zero_mul];exact rfl)|rfl);exact hparts)|(apply Still.sliceHi;rfl;rfl;rfl;(exact zAi);omega;omega;rfl)|exact Still.an))|(refine Yt 2047 11 ?_ (h:=by first|(apply Still.index;rfl;rfl;rfl;rfl;(exact zAi);omega;omega;(first|(simp only[Int.toNat_natCast,Nat.mul_one,Nat.zero_add,Int.reduceToNat,Nat.reduceMul,Nat.reduceAdd,Nat.zero_mul];exact rfl)|rfl);exact hparts)|(apply Still.sliceHi;rfl;rfl;rfl;(exact zAi);omega;omega;rfl)|exact Still.any))|(refine Yt 4095 12 ?_ (h:=by first|(apply Still.index;rfl;rfl;rfl;rfl;(exact zAi);omega;omega;(first|(simp only[Int.toNat_natCast,Nat.mul_one,Nat.zero_add,Int.reduceToNat,Nat.reduceMul,Nat.reduceAdd,Nat.zero_mul];exact rfl)|rfl);exact hparts)|(apply Still.sliceHi;rfl;rfl;rfl;(exact zAi);omega;omega;rfl)|exact Still.any))|refine Yt 16383 14 ?_|refine Yt 32767 15 ?_|refine Yt 65535 16 ?_|refine Yt 131071 17 ?_|refine Yt 262143 18 ?_|(refine Yt 1919 11 ?_ (h:=by first|(apply Still.index;rfl;rfl;rfl;rfl;(exact zAi);omega;omega;(first|(simp only[Int.toNat_natCast,Nat.mul_one,Nat.zero_add,Int.reduceToNat,Nat.reduceMul,Nat.reduceAdd,Nat.zero_mul];exact rfl)|rfl);exact hparts)|(apply Still.sliceHi;rfl;rfl;rfl;(exact zAi);omega;omega;rfl)|exact Still.any))|(refine Og ?_;clear hS;intro b w1 hS;refine Xh ?_)|(refine Ov 202 (zAm hS) ?_;clear hS;intro w1 hS;refine Xh ?_)|(apply OP.callF;rfl;rfl;rfl;show Cl _ 201 _ _ _;refine zUk (xs:=zAp ⟨op,n,z1,z2,z3⟩) (cs:=[pI z1,pI z2,pI z3]) hlen hml hal hall ?_ hargs hS.tk2;(exact Rd.any);clear hS;rintro v w1 ⟨rfl,hS⟩;refine Xh ?_)|refine Jo ?_|refine Zb 1663 7 8 ?_ ?_|refine Za 1791 8 ?_|refine Za 8191 13 ?_|refine Za 3967 7 ?_|(refine Yd 524287 ?_;exact⟨(),Sb,hS.pk⟩)
   · clear hS
     rintro⟨⟩ w1 hS;repeat' first|(refine Qc 203 (c:=zIg hhl hS.tk) (k':=?_);clear hS;intro va w1 hS)|apply Qs|apply Qr|apply Qn|refine Ql ?_|refine Qt ?_|apply Qk|apply Qb
     refine Qw Tryz.func150 ?_;exact Xp
theorem zTA {s:Stp}(g:Good lim L)(hn:0≤s.n∧s.n≤18446744073709551615)(hml:made.length≤200000)(hhl:heard.length≤200000)(hmh:zBd L made)(hr:zAf s)(hall:(zAp s).all (ahd made)=true)
 (hS:St we ρ (zAA p lim L::Row cb [pP p,pP kb,mv] 253::Vec 3 1 mv made.length (made.flatMap intL)::KN kb p heard K::F) w) :
 Cl Tryz.prog 150 [pP cb,.agg (stpL s).toArray] w fun v w'=>v = .tuple #[pI (oneS lim L heard made s).2.1,pI (oneS lim L heard made s).2.2] ∧
  St we ρ (zAA p lim (oneS lim L heard made s).1::Row cb [pP p,pP kb,mv] 253::Vec 3 1 mv made.length (made.flatMap intL)::KN kb p heard K::F) w':=by
 have hright:∀{σ:List HP} {w:World},St we ρ σ w→_:=fun {σ w} hS=>zHJ (we:=we) (ρ := ρ) (σ := σ) (w:=w) hn hS
 obtain⟨op,n,z1,z2,z3⟩:=s;replace hright:∀{σ:List HP} {w:World},St we ρ σ w→Cl Tryz.prog 200 [.agg [Value.int .i64 op,Value.int .u64 n,Value.int .i64 z1,Value.int .i64 z2,Value.int .i64 z3].toArray] w fun v w'=>v = .bool (decide (zAf ⟨op,n,z1,z2,z3⟩))∧St we ρ σ w':=hright
 show Cl _ _ [_,.agg [Value.int .i64 op,Value.int .u64 n,Value.int .i64 z1,Value.int .i64 z2,Value.int .i64 z3].toArray] _ _;simp only[decide_eq_true hr]at hright;have hop:0≤op∧op≤13:=⟨hr.1.1,hr.1.2.1⟩
 have hparts:=zLt hop;have hlen:=zI4 ⟨op,n,z1,z2,z3⟩;have hul:=zHz op;have hal:(zAp ⟨op,n,z1,z2,z3⟩).length≤3:=by rw[hlen];exact hul
 have hargs:=zSt op n z1 z2 z3;simp only at hlen;refine Run.calls2 (n:=97) Tryz.func150 rfl rfl rfl ?_;repeat' first|(refine Qv 200 (hright hS) ?_;clear hS;intro w1 hS)|apply Qs|apply Qr|apply Qn|refine Ql ?_|(refine Qx ?_;clear hS;intro b w1 hS)|refine Qf ?_|apply Qk
 replace hS:St we ρ (Row cb [pP p,pP kb,mv] 253::Vec 3 1 mv made.length (made.flatMap intL)::zAA p lim L::KN kb p heard K::Row b [pI op,.int .u64 n,pI z1,pI z2,pI z3] 255::F) _:=hS.pk;refine(Run.regionH_cut (fun ov:Value=>Vec 3 1 ov ((zAp ⟨op,n,z1,z2,z3⟩).map (mde made)).length (((zAp ⟨op,n,z1,z2,z3⟩).map (mde made)).flatMap intL)::Row cb [pP p,pP kb,mv] 253::Vec 3 1 mv made.length (made.flatMap intL)::zAA p lim L::KN kb p heard K::Row b [pI op,.int .u64 n,pI z1,pI z2,pI z3] 255::F)
  (fun ov=>[(0,pP cb),(3,pP b),(6,ov),(7,.bool true)])
  hS (.cons _ (.cons _ (List.Sublist.refl _))) (by rfl) (by rfl) (by rfl) ?_ ?_)
 · clear hS
   intro w1 hS;refine RH.relist (listed':=bm 19 0) (by kernel_rfl) ?_;repeat' first|refine Yt 0 0 ?_|refine Yl 1 1 ?_|(refine Yt 3 2 ?_ (h:=by first|(apply Still.index;rfl;rfl;rfl;rfl;(exact zAi);omega;omega;(first|(simp only[Int.toNat_natCast,Nat.mul_one,Nat.zero_add,Int.reduceToNat,Nat.reduceMul,Nat.reduceAdd,Nat.zero_mul];exact rfl)|rfl);exact hparts)|(apply Still.sliceHi;rfl;rfl;rfl;(exact zAi);omega;omega;rfl)|exact Still.an))|refine Yl 7 3 ?_|(refine Yt 15 4 ?_ (h:=by first|(apply Still.index;rfl;rfl;rfl;rfl;(exact zAi);omega;omega;(first|(simp only[Int.toNat_natCast,Nat.mul_one,Nat.zero_add,Int.reduceToNat,Nat.reduceMul,Nat.reduceAdd,Nat.zero_mul];exact rfl)|rfl);exact hparts)|(apply Still.sliceHi;rfl;rfl;rfl;(exact zAi);omega;omega;rfl)|exact Still.an))|refine Yl 31 5 ?_|(refine Yt 63 6 ?_ (h:=by first|(apply Still.index;rfl;rfl;rfl;rfl;(exact zAi);omega;omega;(first|(simp only[Int.toNat_natCast,Nat.mul_one,Nat.zero_add,Int.reduceToNat,Nat.reduceMul,Nat.reduceAdd,Nat.zero_mul];exact rfl)|rfl);exact hparts)|(apply Still.sliceHi;rfl;rfl;rfl;(exact zAi);omega;omega;rfl)|exact Still.an))|refine Yl 127 9 ?_|(refine Yt 639 10 ?_ (h:=by first|(apply Still.index;rfl;rfl;rfl;rfl;(exact zAi);omega;omega;(first|(simp only[Int.toNat_natCast,Nat.mul_one,Nat.zero_add,Int.reduceToNat,Nat.reduceMul,Nat.reduceAdd,Nat.zero_mul];exact rfl)|rfl);exact hparts)|(apply Still.sliceHi;rfl;rfl;rfl;(exact zAi);omega;omega;rfl)|exact Still.an))|(refine Yt 2047 11 ?_ (h:=by first|(apply Still.index;rfl;rfl;rfl;rfl;(exact zAi);omega;omega;(first|(simp only[Int.toNat_natCast,Nat.mul_one,Nat.zero_add,Int.reduceToNat,Nat.reduceMul,Nat.reduceAdd,Nat.zero_mul];exact rfl)|rfl);exact hparts)|(apply Still.sliceHi;rfl;rfl;rfl;(exact zAi);omega;omega;rfl)|exact Still.any))|(refine Yt 4095 12 ?_ (h:=by first|(apply Still.index;rfl;rfl;rfl;rfl;(exact zAi);omega;omega;(first|(simp only[Int.toNat_natCast,Nat.mul_one,Nat.zero_add,Int.reduceToNat,Nat.reduceMul,Nat.reduceAdd,Nat.zero_mul];exact rfl)|rfl);exact hparts)|(apply Still.sliceHi;rfl;rfl;rfl;(exact zAi);omega;omega;rfl)|exact Still.any))|refine Yt 16383 14 ?_|refine Yt 32767 15 ?_|refine Yt 65535 16 ?_|refine Yt 131071 17 ?_|refine Yt 262143 18 ?_|(refine Yt 1919 11 ?_ (h:=by first|(apply Still.index;rfl;rfl;rfl;rfl;(exact zAi);omega;omega;(first|(simp only[Int.toNat_natCast,Nat.mul_one,Nat.zero_add,Int.reduceToNat,Nat.reduceMul,Nat.reduceAdd,Nat.zero_mul];exact rfl)|rfl);exact hparts)|(apply Still.sliceHi;rfl;rfl;rfl;(exact zAi);omega;omega;rfl)|exact Still.any))|(refine Og ?_;clear hS;intro b w1 hS;refine Xh ?_)|(refine Ov 202 (zAm hS) ?_;clear hS;intro w1 hS;refine Xh ?_)|(apply OP.callF;rfl;rfl;rfl;show Cl _ 201 _ _ _;refine zS5 (xs:=zAp ⟨op,n,z1,z2,z3⟩) (cs:=[pI z1,pI z2,pI z3]) hlen hml hal hall ?_ hargs hS.tk2;(exact Rd.any);clear hS;rintro v w1 ⟨ov,rfl,hS⟩;refine Xh ?_)|refine Jo ?_|refine Zb 1663 7 8 ?_ ?_|refine Za 1791 8 ?_|refine Za 8191 13 ?_|refine Za 3967 7 ?_|(refine Yd 524287 ?_;exact⟨_,Sb,hS.pk⟩)
 · clear hS
   rintro ov w1 hS;repeat' first|(refine Qc 203 (c:=zIg hhl hS.tk) (k':=?_);clear hS;intro va w1 hS;obtain⟨ρ1,o1,s1,hT⟩:=zAH zAZ hS;clear hS;have hS:=hT;clear hT;obtain⟨pa,ca,rfl,ka1,ka2,_⟩:=s1.val)|apply Qs|apply Qr|(apply Rs<;>intro hc<;>try exact No)|apply Qn|refine Ql ?_|refine Qy ?_|refine Qz ?_|refine Qu ?_|refine Qt ?_|refine Qf ?_|apply Qk|apply Qb|apply Qi
   · have h0:op=0:=by assumption
     have hz:¬(0≤z1∧z1<heard.length):=by omega
     rw[zHO (s:=⟨op,n,z1,z2,z3⟩) h0 hz];refine Qw Tryz.func150 ?_;exact⟨rfl,o1.back hS.pk⟩
   · have h0:op=0:=by assumption
     have hz:¬(0≤z1∧z1<heard.length):=by omega
     rw[zHO (s:=⟨op,n,z1,z2,z3⟩) h0 hz];refine Qw Tryz.func150 ?_;exact⟨rfl,o1.back hS.pk⟩
   · have h0:op=0:=by assumption
     have hz:0≤z1∧z1<heard.length:=by omega
     have hzl:z1.toNat<heard.length:=by omega
     obtain⟨b1,o1',cs1,el1,f1,rfl,m1,hx1⟩:=s1.int hzl;obtain⟨_,hmd⟩:=zIX (made:=heard) (x:=z1) (zFy.2 hz);rw[← hmd]at hx1;repeat' first|(refine Ql ?_ (h:=by apply Still.load;rfl;rfl;exact Rd.ro m1;exact hx1))|apply Qn|refine Ql ?_
     rw[zKk (s:=⟨op,n,z1,z2,z3⟩) hr h0 hz];refine Qw Tryz.func150 ?_;exact⟨rfl,o1.back hS.pk⟩
   · have h0:op=1:=by assumption
     have hn1:n<1048576:=by have:=hr.2.1;simp only at this;omega
     simp only at hn;replace hS:St we ρ1 (zAA p lim L::Row cb [pP p,pP kb,mv] 253::Vec 3 1 mv made.length (made.flatMap intL)::KN kb p heard K::Row b [pI op,.int .u64 n,pI z1,pI z2,pI z3] 255::F) _:=hS.pk;refine(Run.regionH_cut (fun _:Unit=>zAA p lim (mk lim L ⟨1,4294967296+n,0,0,0⟩).1::Row cb [pP p,pP kb,mv] 253::Vec 3 1 mv made.length (made.flatMap intL)::KN kb p heard K::F)
      (fun _=>[(4,pI (mk lim L ⟨1,4294967296+n,0,0,0⟩).2.1),(5,pI (mk lim L ⟨1,4294967296+n,0,0,0⟩).2.2)])
      hS (.cons _ (List.Sublist.refl _)) (by rfl) (by rfl) (by rfl) ?_ ?_)
     · clear hS
       intro w1 hS;refine RH.relist (listed':=bm 13 0) (by kernel_rfl) ?_;repeat' first|(apply Rh<;>intro hc<;>try exact No)|refine Yt 0 0 ?_|refine Yt 1 1 ?_|refine Yl 3 2 ?_|refine Yl 7 3 ?_|refine Yl 15 4 ?_|refine Yl 31 5 ?_|refine Yt 63 6 ?_|refine Yt 127 7 ?_|refine Yt 511 9 ?_|refine Yt 1023 10 ?_|refine Yt 2047 11 ?_|refine Yt 4095 12 ?_|(refine Ov 80 (zB6 (n:=⟨1,4294967296+n,0,0,0⟩) hS) ?_;clear hS;intro w1 hS;refine Xh ?_)|refine Jo ?_|refine Za 255 8 ?_|(refine Yd 8191 ?_;exact⟨(),Sb,hS.pk⟩)
     · clear hS
       rintro⟨⟩ w1 hS;rw[zTZ (s:=⟨op,n,z1,z2,z3⟩) hr h0];refine Qw Tryz.func150 ?_;exact⟨rfl,o1.back hS.pk⟩
   · have h0:op=13:=by assumption
     rw[zTX (s:=⟨op,n,z1,z2,z3⟩) hr h0];refine Qw Tryz.func150 ?_;exact⟨rfl,o1.back hS.pk⟩
   · have hop3:op=10∨op=11∨op=12:=by omega
     rw[zRX (s:=⟨op,n,z1,z2,z3⟩) hr hop3 hall];have hne:0<((zAp ⟨op,n,z1,z2,z3⟩).map (mde made)).length∧(op=12→2≤((zAp ⟨op,n,z1,z2,z3⟩).map (mde made)).length):=by
      rw[List.length_map,hlen];rcases hop3 with h|h|h<;>simp[uses,h]
     obtain⟨_,⟨_,hnil,_⟩|⟨g0,cap0,sp,rfl,c1,c2,c3,hT⟩⟩:=zBP (hS.take (A:=Vec 3 1 ov ((zAp ⟨op,n,z1,z2,z3⟩).map (mde made)).length (((zAp ⟨op,n,z1,z2,z3⟩).map (mde made)).flatMap intL)) An)
     · omega
     clear hS;have hS:=hT;clear hT;have hcell:∀(j:Nat) (y:Int),(zAp ⟨op,n,z1,z2,z3⟩)[j]? = some y→(((zAp ⟨op,n,z1,z2,z3⟩).map (mde made)).flatMap intL++sp)[j]? = some (pI (mde made y)):=by
      intro j y h;have hj:=(List.getElem?_eq_some_iff.1 h).1;rw[zB4,List.getElem?_append_left (by rw[List.length_map,List.length_map];exact hj),List.getElem?_map,List.getElem?_map,h];rfl
     have l0:=hcell 0 z1 (by rcases hop3 with h|h|h<;>simp[zAp,uses,h]);have l1:op=12→_:=fun h12=>hcell 1 z2 (by simp[zAp,uses,h12])
     repeat' first|(apply RO.op;apply OP.callF;rfl;rfl;rfl;show Cl _ 204 _ _ _;refine zMr (x:=mde made z1) (y:=mde made z2) (cells:=((zAp ⟨op,n,z1,z2,z3⟩).map (mde made)).flatMap intL++sp) hop3 hne.1 hne.2 ?_ l0 l1 hS.tk2;(exact Rd.any);clear hS;rintro v w1 ⟨rfl,hS⟩)|apply Qn|refine Ql ?_
     refine Qw Tryz.func150 ?_;exact⟨rfl,o1.back hS.pk⟩
   · by_cases h3:op=3
     · rw[zRY (s:=⟨op,n,z1,z2,z3⟩) hr h3 hall]
       have hne:2≤((zAp ⟨op,n,z1,z2,z3⟩).map (mde made)).length:=by
        rw[List.length_map,hlen];simp[uses,h3]
       obtain⟨_,⟨_,hnil,_⟩|⟨g0,cap0,sp,rfl,c1,c2,c3,hT⟩⟩:=zBP (hS.take (A:=Vec 3 1 ov ((zAp ⟨op,n,z1,z2,z3⟩).map (mde made)).length (((zAp ⟨op,n,z1,z2,z3⟩).map (mde made)).flatMap intL)) An)
       · omega
       clear hS;have hS:=hT;clear hT;have hcell:∀(j:Nat) (y:Int),(zAp ⟨op,n,z1,z2,z3⟩)[j]? = some y→(((zAp ⟨op,n,z1,z2,z3⟩).map (mde made)).flatMap intL++sp)[j]? = some (pI (mde made y)):=by
        intro j y h;have hj:=(List.getElem?_eq_some_iff.1 h).1;rw[zB4,List.getElem?_append_left (by rw[List.length_map,List.length_map];exact hj),List.getElem?_map,List.getElem?_map,h];rfl
       have l0:=hcell 0 z1 (by simp[zAp,uses,h3]);have l1:=hcell 1 z2 (by simp[zAp,uses,h3]);repeat' first|(apply RO.op;apply OP.callF;rfl;rfl;rfl;show Cl _ 205 _ _ _;refine zN9 (s:=⟨op,n,z1,z2,z3⟩) (x:=mde made z1) (y:=mde made z2) (cells:=((zAp ⟨op,n,z1,z2,z3⟩).map (mde made)).flatMap intL++sp) h3 hne ?_ l0 l1 hS.tk2;(exact Rd.any);clear hS;rintro v w1 ⟨rfl,hS⟩)|apply Qn|refine Ql ?_
       refine Qw Tryz.func150 ?_;exact⟨rfl,o1.back hS.pk⟩
     · have hop4:=hr.1.2.2
       simp only at hop4;have hop6:op=2∨op=5∨op=6∨op=7∨op=8∨op=9:=by omega
       rw[zRZ (s:=⟨op,n,z1,z2,z3⟩) g hr hop6 hall hmh];have hp0:=zNL (s:=⟨op,n,z1,z2,z3⟩) (made:=made) 0 (by omega);have hp1:=zNL (s:=⟨op,n,z1,z2,z3⟩) (made:=made) 1 (by omega);have hp2:=zNL (s:=⟨op,n,z1,z2,z3⟩) (made:=made) 2 (by omega);have hxl:((zAp ⟨op,n,z1,z2,z3⟩).map (mde made)).length≤3:=by rw[List.length_map];exact hal
       repeat' first|(apply RO.op;apply OP.callF;rfl;rfl;rfl;show Cl _ 205 _ _ _;refine zUI (s:=⟨op,n,z1,z2,z3⟩) (xs:=(zAp ⟨op,n,z1,z2,z3⟩).map (mde made)) h3 hxl hp0 hp1 hp2 (tke3 hS An An An);clear hS;rintro v w1 ⟨rfl,hS⟩)|apply Qn|refine Ql ?_
       refine Qw Tryz.func150 ?_;exact⟨rfl,o1.back hS.pk⟩
theorem zPF {s:Stp}(g:Good lim L)(hn:0≤s.n∧s.n≤18446744073709551615)(hml:made.length≤200000)(hhl:heard.length≤200000)(hmh:zBd L made)
 (hS:St we ρ (zAA p lim L::Row cb [pP p,pP kb,mv] 253::Vec 3 1 mv made.length (made.flatMap intL)::KN kb p heard K::F) w) :
 Cl Tryz.prog 150 [pP cb,.agg (stpL s).toArray] w fun v w'=>v = .tuple #[pI (oneS lim L heard made s).2.1,pI (oneS lim L heard made s).2.2] ∧
  St we ρ (zAA p lim (oneS lim L heard made s).1::Row cb [pP p,pP kb,mv] 253::Vec 3 1 mv made.length (made.flatMap intL)::KN kb p heard K::F) w':=by
 by_cases hr:zAf s
 · cases hall:(zAp s).all (ahd made)with
   | true=>exact zTA g hn hml hhl hmh hr hall hS
   | false =>
     rw[zTV hall];exact zQz hn hml hhl (.inr ⟨hr,hall⟩) hS
 · rw[zRW hr]
   exact zQz hn hml hhl (.inl hr) hS
end
theorem zUt {lim:Nat}{heard:List Int}{s:Stp}{l:List Stp}{L:List Nd}{made:List Int}{i:Nat}(h:(oneS lim L heard made s).2.2≠0):runS lim heard (s::l) L made i=((oneS lim L heard made s).1,[],i,(oneS lim L heard made s).2.2):=by
 conv=>lhs;unfold runS
 rw[if_pos h,zTW h]
theorem zOT {lim:Nat}{heard:List Int}{s:Stp}{l:List Stp}{L:List Nd}{made:List Int}{i:Nat}(h:(oneS lim L heard made s).2.2=0):runS lim heard (s::l) L made i=runS lim heard l (oneS lim L heard made s).1 (made++[(oneS lim L heard made s).2.1]) (i+1):=by
 conv=>lhs;unfold runS
 rw[if_neg (by simp[h])]
theorem zQb {lim:Nat}{L:List Nd}(g:Good lim L){heard made:List Int}(h1:zBd L heard)(h2:zBd L made){s:Stp}:Good lim (oneS lim L heard made s).1∧zBd (oneS lim L heard made s).1 heard∧zBd (oneS lim L heard made s).1 made∧((oneS lim L heard made s).2.2=0→zBd (oneS lim L heard made s).1 (made++[(oneS lim L heard made s).2.1])):=by
 have o:=zUR g h1 h2 s;obtain⟨M,hM⟩:=o.ext;have e1:zBd (oneS lim L heard made s).1 made:=by rw[hM];exact zKG h2
 refine⟨o.good,by rw[hM];exact zKG h1,e1,fun he x hx=>?_⟩;rcases List.mem_append.1 hx with q|q
 · exact e1 x q
 · rw[List.mem_singleton.1 q];exact o.made he
section
variable {we w:World}{ρ:List (Nat × Obj)}{σ F:List HP}{kb p lim cb:Nat}{L:List Nd}{K:Int→Bool}{v mv:Value}{heard made:List Int}
theorem zRE {l:List Stp}(g:Good lim L)(hl:Sl ρ stpL 5 v l)(hq:∀s∈l,0≤s.n∧s.n≤18446744073709551615)(hll:l.length≤1000)(hhl:heard.length≤200000)(hhh:zBd L heard)
 (hS:St we ρ (KN kb p heard K::zAA p lim L::F) w) :
 Cl Tryz.prog 94 [pP p,pP kb,v] w fun v w'=>∃mv,v = .tuple #[mv,pI (runS lim heard l L [] 0).2.2.1,pI (runS lim heard l L [] 0).2.2.2] ∧
  St we ρ (Vec 3 1 mv (runS lim heard l L [] 0).2.1.length ((runS lim heard l L [] 0).2.1.flatMap intL)::KN kb p heard K::zAA p lim (runS lim heard l L [] 0).1::F) w':=by
 obtain⟨p1,c1,rfl,k1,k2,hrow⟩:=hl.val;refine Run.calls3 (n:=50) Tryz.func94 rfl rfl rfl ?_;repeat' first|apply Qs|apply Qr|apply Qn|refine Ql ?_|(refine Qx ?_;clear hS;intro b w1 hS)|apply Qb
 obtain⟨cb,hcb⟩:∃x,x=b:=⟨b,rfl⟩
 subst hcb;refine Run.while (fun q:Nat × List Nd × List Int × Value=>[(9,pP cb),(18,.slice p1 l.length c1),(19,pI l.length),(20,pI q.1)])
  (fun q w=>q.1≤l.length∧runS lim heard l L [] 0=runS lim heard (l.drop q.1) q.2.1 q.2.2.1 q.1∧Good lim q.2.1∧zBd q.2.1 heard∧zBd q.2.1 q.2.2.1∧q.2.2.1.length=q.1 ∧
    St we ρ (zAA p lim q.2.1::Row cb [pP p,pP kb,q.2.2.2] 253::Vec 3 1 q.2.2.2 q.2.2.1.length (q.2.2.1.flatMap intL)::KN kb p heard K::F) w) (fun q=>l.length - q.1) (0,L,[],.slice none 0 0)
  ⟨by simp,rfl,g,hhh,(fun x hx=>by cases hx),rfl,(zAh hS).picks (by focus((repeat(first|apply Picks.all|apply Picks.nil|(refine Picks.cons (by repeat(first|apply Take.head|apply Take.tail)) ?_)|apply Picks.drop));done))⟩ (by exact Sb) ?_
 clear hS hhh g;rintro⟨i,L,made,mv⟩ w ⟨hi,hrun,g,hhh,hmh,hml,hS⟩ ih;simp only at hi hrun g hhh hmh hml hS ih ⊢;rw[hrun];by_cases hlt:i<l.length
 · obtain⟨bb,off,cs,el,fr,rfl,hmem,hnd⟩:=hrow (by omega)
   have hni:=hnd i hlt;have hsq:=hq l[i] (List.getElem_mem hlt);have hdrop:l.drop i=l[i]::l.drop (i+1):=List.drop_eq_getElem_cons hlt;generalize l[i]=s at hni hsq hdrop;have hml2:made.length≤200000:=by omega
   obtain⟨q1,q2,q3,q4⟩:=zQb (made:=made) g hhh hmh (s:=s);have hstep:∀{w:World} {G:List HP},St we ρ (zAA p lim L::Row cb [pP p,pP kb,mv] 253::Vec 3 1 mv made.length (made.flatMap intL)::KN kb p heard K::G) w→_:=fun {w G} hS=>zPF (w:=w) (F:=G) (s:=s) g hsq hml2 hhl hmh hS
   obtain⟨L2,x,e,ho⟩:∃L2 x e,oneS lim L heard made s=(L2,x,e):=⟨_,_,_,rfl⟩
   rw[hdrop]at hrun ⊢;by_cases he:e=0
   · subst he
     rw[zOT (by rw[ho])]at hrun ⊢;rw[ho]at hrun q1 q2 q3 q4 ⊢;simp only[ho]at hstep;simp only at hrun q1 q2 q3 q4 ⊢;rw[← hrun];repeat' first
      | (refine Ql ?_ (h:=by apply Still.loadAgg;rfl;rfl;(exact zAi);exact Rd.ro hmem;exact hni;rfl))
      | (refine Qv 150 (hstep (tke4 hS An An An An)) ?_;clear hS;intro w1 hS)
      | (apply RO.op;apply OP.append (size:=1) (bytes:=8) (k:=1) (news:=[.int .i64 x]) hS;rfl;rfl;rfl;rfl;rfl;rfl;rfl;rfl;exact(by omega);exact An;(exact Rd.any);rfl;rfl;exact(by intro v hv;simp at hv;subst hv;rfl);(exact(by unfold maxLen;omega));(exact(by omega));rfl
         clear hS;intro v2 w1 hS;obtain⟨pv,cv,rfl⟩:=zAG hS)
      | apply Qs
      | apply Qr
      | (apply Rs<;>intro hc<;>try exact No)
      | apply Qn
      | refine Ql ?_
      | (refine Qa ?_;clear hS;intro b w1 hS)
      | (refine Qd ?_;clear hS;intro w1 hS)
      | (refine Qg ?_;clear hS;intro b w1 hS)
      | refine Qt ?_
      | refine Qf ?_
      | apply Qk
      | apply Qb
      | apply Qi
     refine Run.weaken (by exact Sb) (ih (i+1,L2,made++[x],.slice pv (made.length+1) cv) _ ⟨by simp;omega,hrun,q1,q2,q4 trivial,by simp;omega,?_⟩ (by simp;omega));simp only[List.length_append,List.flatMap_append];exact hS.pk
   · rw[zUt (by rw[ho];exact he)]
     rw[ho];simp only[ho]at hstep;simp only at ⊢;repeat' first|(refine Ql ?_ (h:=by apply Still.loadAgg;rfl;rfl;(exact zAi);exact Rd.ro hmem;exact hni;rfl))|(refine Qv 150 (hstep (tke4 hS An An An An)) ?_;clear hS;intro w1 hS)|apply Qs|apply Qr|(apply Rs<;>intro hc<;>try exact No)|apply Qn|refine Ql ?_|(refine Qa ?_;clear hS;intro b w1 hS)|(refine Qd ?_;clear hS;intro w1 hS)|refine Qt ?_|apply Qk|apply Qb
     refine Qw Tryz.func94 ?_;exact⟨_,rfl,(zAh hS).picks (by focus((repeat(first|apply Picks.all|apply Picks.nil|(refine Picks.cons (by repeat(first|apply Take.head|apply Take.tail)) ?_)|apply Picks.drop));done))⟩
 · obtain rfl:i=l.length:=by omega
   rw[List.drop_of_length_le (Nat.le_refl _)];obtain⟨pv,cv,rfl⟩:=zAG (hS.take (A:=Vec 3 1 mv made.length (made.flatMap intL)) An);repeat' first|apply Qs|apply Qr|(apply Rs<;>intro hc<;>try exact No)|apply Qn|refine Ql ?_|refine Qf ?_|refine Qe ?_
   refine Qw Tryz.func94 ?_;exact⟨_,rfl,hS.pk⟩
end
theorem zRG {α:Type}{g : α→List Value}{size:Nat}(cs:List Value):∀(l:List α) (off:Nat),(∀(i:Nat) (h:i<l.length),(cs.drop (off+i*size)).take size=g l[i])→(cs.drop off).take (l.length*size)=l.flatMap g:=by
 intro l;induction l with
 | nil=>intro off _;simp
 | cons a l ih =>
   intro off h;have h0:=h 0 (by simp);rw[Nat.zero_mul,Nat.add_zero]at h0;have h1:=ih (off+size) (fun i hi=>by
    have:=h (i+1) (by simp;omega);rw[Nat.add_mul,Nat.one_mul,show off+(i*size+size)=off+size+i*size by omega]at this;exact this)
   rw[List.length_cons,Nat.add_mul,Nat.one_mul,Nat.add_comm (l.length*size) size,List.take_add,h0,List.drop_drop,h1,List.flatMap_cons];rfl
theorem zUo {α:Type}{g : α→List Value}{size:Nat}(hg:∀a,(g a).length=size)(l:List α):(l.map fun a=>(g a).length).sum=l.length*size:=by
 induction l with
 | nil=>simp
 | cons a l ih=>rw[List.map_cons,List.sum_cons,ih,hg,List.length_cons,Nat.add_mul,Nat.one_mul,Nat.add_comm]
section
variable {P:Program}{n:Nat}{e:Env}{ty:TypeId}{x y:Operand}
variable {we w:World}{ρ:List (Nat × Obj)}{σ F:List HP}{d:Nat}{pos:String}{aft:Array Edge}{gd:Option (Nat × Bool)}{K:Env→World→Prop}
variable {el:TypeId}{size m:Nat}{xs:List Value}
theorem OP.appendNone {t el:TypeId}{i:TypeInfo}{size m:Nat}{xs:List Value}{p:Option Addr}{c:Nat}{v:Value}(hS:St we ρ σ w)(hx:ev e x=some v)(hy:ev e y=some (.slice p 0 c))(ht:zEv P t=some el)(hi:P.info? el=some i)
 (hT:Take (Vec el size v m xs) σ F) (hd:Nat.blt d n=true) (hk:K ((d,v)::e) w) :
 OP P n ⟨some d,.call { callee:=.builtin .append,args := #[x,y],argTypes := #[t,t] },ty,pos,aft,gd⟩ e w K:=by
 have hform:∃pk cap,v = .slice pk m cap∧m≤cap:=by
  rcases(zBP (hS.take hT)).2 with ⟨rfl,rfl,_⟩|⟨g,cap,spare,rfl,h1,_⟩
  · exact⟨_,_,rfl,Nat.le_refl _⟩
  · exact⟨_,_,rfl,h1⟩
 obtain⟨pk,cap,rfl,hle⟩:=hform;refine OP.put (fun a ha=>?_) hd hk;have hrun:(Builtin.append_ #[t,t] ty #[.slice pk m cap,.slice p 0 c]).run P w = .ok (.slice pk m cap) w:=by
  cases pk<;>cases p<;>simp[Builtin.append_,run_underlying (zBi ht),sizeOf,typeInfo,hi,Builtin.lenOf,Builtin.firstCells,hle,storeCells,loadCells,loadCellsFrom]
 simp only[execOp,resolve,invoke,Sem.run_bind,Sem.run_pure,Result.andThen_ok];simp[builtin,ha.ev hx,ha.ev hy,hrun]
theorem OP.appendSl {α:Type}{g : α→List Value}{l:List α}{u v:Value}{t:TypeId}{i:TypeInfo}{z:Value}{bytes:Nat}
 (hS:St we ρ σ w) (hs:Sl ρ g size u l) (hg:∀a,(g a).length=size) (h1:∀a,∀c∈g a,one c=true) (hx:ev e x=some v) (hy:ev e y=some u) (ht:zEv P t=some el) (hi:P.info? el=some i) (hz:i.zero=some z)
 (hsize:i.size=size) (hby:i.bytes=bytes) (hzs:z.cells.size=size) (hsz:0<size) (hT:Take (Vec el size v m xs) σ F)
 (h63:m+l.length≤maxLen) (hbytes:(m+l.length)*bytes≤140737488355328) (hd:Nat.blt d n=true)
 (hk:∀v' w1,St we ρ (Vec el size v' (m+l.length) (xs++l.flatMap g)::F) w1→K ((d,v')::e) w1) :
 OP P n ⟨some d,.call { callee:=.builtin .append,args := #[x,y],argTypes := #[t,t] },ty,pos,aft,gd⟩ e w K:=by
 obtain⟨p,cap,rfl,hle,hcm,hrow⟩:=hs.val;by_cases h0:0<l.length
 · obtain⟨b,off,cs,el',fr,rfl,hmem,hnd⟩:=hrow h0
   refine OP.append (news:=l.flatMap g) hS hx hy ht hi hz hsize hby hzs hsz hT (Rd.ro hmem) (zRG cs l off hnd) ?_ ?_ h63 hbytes hd hk
   · rw[List.length_flatMap]
     exact zUo hg l
   · intro c hc
     obtain⟨a,_,h⟩:=List.mem_flatMap.1 hc;exact h1 a c h
 · have hl0:l=[]:=List.eq_nil_of_length_eq_zero (by omega)
   subst hl0;refine OP.appendNone hS hx hy ht hi hT hd (hk _ _ ?_);rw[List.flatMap_nil,List.append_nil,List.length_nil,Nat.add_zero];exact hS.take hT
end
end Go.Proofs.YtcikdogkkgefcaaGreatDoor
