/- code.Write of a name. play.written, state. -/
import Derived.Test.YtcikdogkkgefcaaGreatDoorMA31
import Derived.Test.YtcikdogkkgefcaaGreatDoorMA36
namespace Go.Proofs.YtcikdogkkgefcaaGreatDoor
set_option maxRecDepth 8000
set_option maxHeartbeats 16000000
set_option linter.unusedVariables false
set_option linter.unusedSimpArgs false
open Go Go.RowKit
def zHM:List Value:=[pI 0,pI 0,pI 1,pI 2,pI 2,pI 2,pI 2,pI 3,pI 2,pI 0]
section
variable {we w:World}{ρ:List (Nat × Obj)}{σ F:List HP}{v:Value}{p lim:Nat}{L:List Nd}{N:Int}
theorem zIz (hS:St we ρ σ w):Cl Tryz.prog 176 [] w fun v w'=>v = .agg zHM.toArray∧St we ρ σ w':=by
 refine Run.calls0 (n:=2) Tryz.func176 rfl rfl ?_;repeat' first|apply Qs|apply Qr|apply Qn|refine Ql ?_|(refine Qa ?_;clear hS;intro b w1 hS)|(refine Qd ?_;clear hS;intro w1 hS)
 refine Qw Tryz.func176 ?_;exact Xp
theorem zJr (hS:St we ρ σ w):Cl Tryz.prog 132 [ndV ⟨1,N,0,0,0⟩] w fun v w'=>∃b,v = .slice (some ⟨b,0,none⟩) 0 3∧St we ρ σ w':=by
 refine Run.calls1 (n:=15) Tryz.func132 rfl rfl rfl ?_;repeat' first|apply Qs|apply Qr|apply Qn|refine Ql ?_|(refine Qx ?_;clear hS;intro b w1 hS)
 refine(Run.regionH_cut (fun _:Nat => σ) (fun z=>[(2,.slice (some ⟨z,0,none⟩) 0 3)]) hS (List.Sublist.refl _) (by rfl) (by rfl) (by rfl) ?_ ?_)
 · clear hS
   intro w1 hS;refine RH.relist (listed':=bm 13 0) (by kernel_rfl) ?_;repeat' first|refine Yl 0 0 ?_|(refine Yt 1 1 ?_ (h:=by first|(apply Still.sliceHi;rfl;rfl;rfl;rfl;decide;decide;rfl)|(apply Still.index (i:=1) (cs:=zHM);rfl;rfl;rfl;rfl;rfl;decide;decide;rfl;rfl)|exact Still.an))|refine Yl 3 2 ?_|(refine Yt 7 3 ?_ (h:=by first|(apply Still.sliceHi;rfl;rfl;rfl;rfl;decide;decide;rfl)|(apply Still.index (i:=1) (cs:=zHM);rfl;rfl;rfl;rfl;rfl;decide;decide;rfl;rfl)|exact Still.an))|refine Yl 15 4 ?_|(refine Yt 31 5 ?_ (h:=by first|(apply Still.sliceHi;rfl;rfl;rfl;rfl;decide;decide;rfl)|(apply Still.index (i:=1) (cs:=zHM);rfl;rfl;rfl;rfl;rfl;decide;decide;rfl;rfl)|exact Still.an))|refine Yl 63 8 ?_|(refine Yt 319 9 ?_ (h:=by first|(apply Still.sliceHi;rfl;rfl;rfl;rfl;decide;decide;rfl)|(apply Still.index (i:=1) (cs:=zHM);rfl;rfl;rfl;rfl;rfl;decide;decide;rfl;rfl)|exact Still.an))|(refine Yt 1023 10 ?_ (h:=by first|(apply Still.sliceHi;rfl;rfl;rfl;rfl;decide;decide;rfl)|(apply Still.index (i:=1) (cs:=zHM);rfl;rfl;rfl;rfl;rfl;decide;decide;rfl;rfl)|exact Still.any))|(refine Yt 2047 11 ?_ (h:=by first|(apply Still.sliceHi;rfl;rfl;rfl;rfl;decide;decide;rfl)|(apply Still.index (i:=1) (cs:=zHM);rfl;rfl;rfl;rfl;rfl;decide;decide;rfl;rfl)|exact Still.any))|refine Yt 4095 12 ?_|(refine Yt 959 10 ?_ (h:=by first|(apply Still.sliceHi;rfl;rfl;rfl;rfl;decide;decide;rfl)|(apply Still.index (i:=1) (cs:=zHM);rfl;rfl;rfl;rfl;rfl;decide;decide;rfl;rfl)|exact Still.any))|(refine Og ?_;clear hS;intro b w1 hS;refine Xh ?_)|(refine Ov 176 (zIz hS) ?_;clear hS;intro w1 hS;refine Xh ?_)|refine Jo ?_|refine Zb 831 6 7 ?_ ?_|refine Za 895 7 ?_|refine Za 1983 6 ?_|(refine Yd 8191 ?_;exact⟨_,Sb,hS.pk⟩)
 clear hS;rintro b w1 hS;refine Qw Tryz.func132 ?_;exact⟨_,rfl,hS⟩
theorem zM9 {x:Int}{ba bh bd bo m:Nat}(hx:has L x=true)(hn:nd L x=⟨1,N,0,0,0⟩)(hS:St we ρ (zAA p lim L::Row ba [pP p] 38::Row bh [.map (some m)] 45::Blk m (.map #[] 0)::Row bo [.slice none 0 0] 80::F) w) :
 Cl Tryz.prog 173 [pI x,pP ba,pP bh,pP bd,pP bo] w fun v w'=>v = .tuple #[]∧∃v2,St we ρ (zAA p lim L::Row bo [v2] 80::Vec 3 1 v2 1 [pI x]::F) w':=by
 have kG:∀{F w},St we ρ (zAA p lim L::F) w→_:=fun hS=>zA0 (x:=x) hS
 rw[hx,hn]at kG;refine Run.calls5 (n:=40) Tryz.func173 rfl rfl rfl ?_;repeat' first|(refine Qv 10 (kG hS.tk) ?_;clear hS;intro w1 hS)|(refine Ql ?_ (h:=by apply Still.lookup (es:=[]);rfl;rfl;rfl;rfl;(exact Rd.any);exact KeyIs.int (f:=intK) rfl (by simp);rfl;rfl))|(apply RO.op;apply OP.mapUpdate (es:=[]) hS;rfl;rfl;rfl;rfl;exact An;exact KeyIs.int (f:=intK) rfl (by simp);exact(by simp);rfl;clear hS;intro w1 hS)|(refine Qc 132 (c:=zJr hS) (k':=?_);clear hS;rintro v w1 ⟨bm,rfl,hS⟩)|apply Qs|apply Qr|apply Qn|refine Ql ?_|(refine Qa ?_;clear hS;intro b w1 hS)|(refine Qd ?_;clear hS;intro w1 hS)|refine Qy ?_|refine Qf ?_|apply Qk|apply Qb
 replace hS:=zAh (el:=3) (size:=1) (hS.pk:St we ρ (zAA p lim L::Row bo [.slice none 0 0] 80::F) _);refine Run.while (fun _:Unit=>[(0,pI x),(4,pP bo),(27,pI (0:Nat)),(28,pI 0)]) (fun _ w=>St we ρ (Vec 3 1 (.slice none 0 0) 0 []::zAA p lim L::Row bo [.slice none 0 0] 80::F) w) (fun _=>0) () hS (by exact Sb) ?_;clear hS;rintro - w hS ih;clear ih;repeat' first|(apply RO.op;apply OP.append (size:=1) (bytes:=8) (k:=1) (news:=[pI x]) hS;rfl;rfl;rfl;rfl;rfl;rfl;rfl;rfl;exact(by omega);exact An;(exact Rd.any);rfl;rfl;exact(by intro v hv;simp at hv;subst hv;rfl);(exact(by unfold maxLen;omega));(exact(by omega));rfl;clear hS;intro v2 w1 hS;obtain⟨pk2,capk2,rfl⟩:=zAG hS)|apply Qs|apply Qr|(apply Rs<;>intro hc<;>try exact No)|apply Qn|refine Ql ?_|(refine Qd ?_;clear hS;intro w1 hS)|(refine Qg ?_;clear hS;intro b w1 hS)|refine Qf ?_|refine Qe ?_
 refine Run.done Tryz.func173 rfl .nil ?_;exact⟨rfl,_,hS.pk⟩
theorem zJO {x:Int}(hx:has L x=true)(hn:nd L x=⟨1,N,0,0,0⟩)(hS:St we ρ (zAA p lim L::F) w) :
 Cl Tryz.prog 129 [pP p,pI x] w fun v w'=>St we ρ (Vec 3 1 v 1 [pI x]::zAA p lim L::F) w':=by
 refine Run.calls2 (n:=14) Tryz.func129 rfl rfl rfl ?_;repeat' first|(refine Ql ?_ (h:=by apply Still.makeFunc;rfl;rfl))|apply Qs|apply Qr|apply Qn|refine Ql ?_|(refine Qx ?_;clear hS;intro b w1 hS)|(refine Qa ?_;clear hS;intro b w1 hS)|(refine Qd ?_;clear hS;intro w1 hS)|(refine Qp ?_;clear hS;intro b w1 hS)
 rename_i ba _ bo _ m _ bh _ _ _;replace hS:St we ρ (zAA p lim L::Row ba [pP p] 38::Row bh [.map (some m)] 45::Blk m (.map #[] 0)::Row bo [.slice none 0 0] 80::F) _:=hS.pk;apply RO.op;apply OP.callV
 · rfl
 · rfl
 · rfl
 · rfl
 · exact zM9 hx hn hS
 clear hS;rintro v w1 ⟨rfl,v2,hS⟩;replace hS:St we ρ (Vec 3 1 v2 1 [pI x]::zAA p lim L::Row bo [v2] 80::F) _:=hS.pk;obtain⟨pk2,capk2,rfl⟩:=zAG hS;repeat' first|apply Qs|apply Qr|apply Qn|refine Ql ?_
 refine Qw Tryz.func129 ?_;exact hS.pk
def spB:ByteArray:=⟨#[32]⟩
def smB:ByteArray:=⟨#[59]⟩
def zWX (N:Nat):ByteArray:=(⟨(Lib.decDigits 1).toArray⟩:ByteArray)++spB++digB N
def zPv (N:Nat):ByteArray:=⟨((zWX N).data.toList++[59]).toArray⟩
theorem zO4 {x:Int}{N:Nat}(hN:N<10)(hx:has L x=true)(hn:nd L x=⟨1,N,0,0,0⟩)(hS:St we ρ (zAA p lim L::F) w) :
 Cl Tryz.prog 75 [pP p,pI x] w fun v w'=>v = .string (zPv N)∧St we ρ (zAA p lim L::F) w':=by
 have kG:∀{ρ:List (Nat × Obj)} {F:List HP} {w:World},St we ρ (zAA p lim L::F) w→_:=fun hS=>zA0 (x:=x) hS
 have kR:∀{F w},St we ρ (zAA p lim L::F) w→_:=fun hS=>zJO (N:=N) hx hn hS
 rw[hx,hn]at kG;have kI:∀{ρ:List (Nat × Obj)} {σ:List HP} {w:World},St we ρ σ w→_:=fun hS=>zFB (i:=1) (by omega) hS
 have kF:∀{ρ:List (Nat × Obj)} {σ:List HP} {w:World},St we ρ σ w→_:=fun hS=>zHg hN hS
 unfold zPv zWX;have a1:(⟨(Lib.decDigits 1).toArray⟩:ByteArray).size≤10:=of_decide_eq_true (by kernel_rfl);have a2:(digB N).size≤10:=by unfold digB;rw[ByteArray.size_extract];omega
 generalize (⟨(Lib.decDigits 1).toArray⟩:ByteArray)=A at kI a1 ⊢;generalize digB N=D at kF a2 ⊢;have hs32:({ data := #[32] }:ByteArray).size=1:=rfl;have z1:A.size+spB.size≤1000000:=by have:spB.size=1:=rfl;omega
 have z2:(A++spB).size+D.size≤1000000:=by rw[ByteArray.size_append];have:spB.size=1:=rfl;omega
 have z3:(A++spB++D).size≤100:=by rw[ByteArray.size_append,ByteArray.size_append];have:spB.size=1:=rfl;omega
 refine Run.calls2 (n:=58) Tryz.func75 rfl rfl rfl ?_;repeat' first|(refine Qc 129 (c:=kR hS.tk) (k':=?_);clear hS;intro v w1 hS;obtain⟨ρ2,o2,s2,hT⟩:=zAH (l:=[x]) zAZ hS;clear hS;have hS:=hT;clear hT;obtain⟨q,qc,rfl,-⟩:=s2.val)|apply Qs|apply Qr|apply Qn|refine Ql ?_|(refine Qa ?_;clear hS;intro b w1 hS)|(refine Qp ?_;clear hS;intro b w1 hS)|apply Qb
 rename_i mb _ _;obtain⟨bb,hbb⟩:∃x,x=b:=⟨_,rfl⟩
 subst hbb;obtain⟨b0,o0,cs0,e0,f0,rfl,m0,h0⟩:=s2.int (i:=0) (by simp);simp only[List.getElem_cons_zero,Nat.add_zero]at h0;refine Run.while (fun z:Option Value=>[(0,pP p),(5,.map (some mb)),(6,pP bb),(16,.slice (some ⟨b0,o0,none⟩) 1 qc),(17,pI 1),(18,pI (if z.isSome then 1 else 0))])
  (fun z w=>match z with
    | none=>St we ρ2 (zAA p lim L::Row bb [.pointer none,.slice none 0 0] 231::Vec 5 1 (.slice none 0 0) 0 []::Blk mb (.map #[] 0)::F) w
    | some v=>St we ρ2 (zAA p lim L::Row bb [.pointer (some ⟨bb,0,none⟩),v] 231::Vec 5 1 v (0+(A++spB++D).size+smB.size) ([]++Lib.strCells (A++spB++D)++Lib.strCells smB)::F) w) (fun z=>if z.isSome then 0 else 1) none ((zAh (el:=5) (size:=1) hS).picks (by focus((repeat(first|apply Picks.all|apply Picks.nil|(refine Picks.cons (by repeat(first|apply Take.head|apply Take.tail)) ?_)|apply Picks.drop));done))) (by exact Sb) ?_
 clear hS;rintro z w hS ih;cases z with
 | none =>
   simp only[Option.isSome_none,Bool.false_eq_true,if_false]at hS ih ⊢;replace ih:=fun v w h=>ih (some v) w h (by simp)
   simp only[Option.isSome_some,if_true]at ih;repeat' first|(refine Qv 10 (kG hS.tk) ?_;clear hS;intro w1 hS)|(refine Ql ?_ (h:=by apply Still.load;rfl;rfl;exact Rd.ro m0;exact h0))|(apply RO.op;apply OP.mapUpdate (es:=[]) hS;rfl;rfl;rfl;rfl;exact An;exact KeyIs.int (f:=intK) rfl (by simp);exact(by simp);rfl;clear hS;intro w1 hS)|apply Qs|apply Qr|(apply Rs<;>intro hc<;>try exact No)|apply Qn|refine Ql ?_|(refine Qa ?_;clear hS;intro b w1 hS)|(refine Qd ?_;clear hS;intro w1 hS)|refine Qt ?_|apply Qk|apply Qb
   replace hS:St we ρ2 (Row bb [.pointer none,.slice none 0 0] 231::Vec 5 1 (.slice none 0 0) 0 []::Row b (ndL ⟨1,N,0,0,0⟩) 36::zAA p lim L::F) _:=hS.pk;have kW:∀{F w},St we ρ2 (Row bb [.pointer none,.slice none 0 0] 231::Vec 5 1 (.slice none 0 0) 0 []::F) w→_:=fun hS=>zFL (s:=A++spB++D) (m:=0) (.inl rfl) (by omega) hS
   refine(Run.regionH_cut (fun v:Value=>Row bb [pP bb,v] 231::Vec 5 1 v (0+(A++spB++D).size) ([]++Lib.strCells (A++spB++D))::Row b (ndL ⟨1,N,0,0,0⟩) 36::zAA p lim L::F) (fun _=>[(0,pP p),(5,.map (some mb)),(6,pP bb),(9,pP b),(16,.slice (some ⟨b0,o0,none⟩) 1 qc),(17,pI 1),(18,pI 0)]) hS (.cons _ (.cons _ (List.Sublist.refl _))) (by rfl) (by rfl) (by rfl) ?_ ?_)
   · clear hS
     intro w1 hS;refine RH.relist (listed':=bm 9 0) (by kernel_rfl) ?_;repeat' first|(apply Rh<;>intro hc<;>try exact No)|refine Yl 0 0 ?_|(refine Yt 1 1 ?_ (h:=by first|(apply Still.addS;rfl;rfl;first|exact z1|exact z2)|exact Still.an))|refine Yl 3 4 ?_|(refine Yt 19 5 ?_ (h:=by first|(apply Still.addS;rfl;rfl;first|exact z1|exact z2)|exact Still.an))|(refine Yt 55 3 ?_ (h:=by apply Still.addS;rfl;rfl;(first|omega|(simp only[ByteArray.size_append];omega)|(simp only[ByteArray.size_append]at *;omega))))|(refine Yt 127 7 ?_ (h:=by apply Still.addS;rfl;rfl;(first|omega|(simp only[ByteArray.size_append];omega)|(simp only[ByteArray.size_append]at *;omega))))|(refine Ov 74 (kI hS) ?_;clear hS;intro w1 hS;refine Xh ?_)|(refine Ov 131 (kF hS) ?_;clear hS;intro w1 hS;refine Xh ?_)|(refine Oc 130 (c:=kW hS) (k':=?_);clear hS;rintro v w1 ⟨vb,rfl,hS⟩;refine Xh ?_)|refine Jo ?_|refine Za 51 2 ?_|refine Za 63 6 ?_|refine Za 255 8 ?_|(refine Yd 511 ?_;exact⟨_,Sb,hS.pk⟩)
   clear hS kW kI kF;rintro vb w1 hS;repeat' first|(refine Ql ?_ (h:=by apply Still.loadAgg (m:=5);rfl;rfl;rfl;(exact Rd.any);rfl;rfl))|(refine Qc 132 (c:=zJr (N:=N) hS) (k':=?_);clear hS;rintro v w1 ⟨mm,rfl,hS⟩)|apply Qs|apply Qr|apply Qn|refine Ql ?_|apply Qb
   have kW2:∀{F w},St we ρ2 (Row bb [pP bb,vb] 231::Vec 5 1 vb (0+(A++spB++D).size) ([]++Lib.strCells (A++spB++D))::F) w→_:=fun hS=>zFL (s:=smB) (m:=0+(A++spB++D).size) (.inr rfl) (by have:smB.size=1:=rfl;omega) hS
   refine Run.while (fun _:Unit=>[(0,pP p),(5,.map (some mb)),(6,pP bb),(16,.slice (some ⟨b0,o0,none⟩) 1 qc),(17,pI 1),(18,pI 0),(43,pI (0:Nat)),(44,pI 0)]) (fun _ w=>St we ρ2 (Row bb [pP bb,vb] 231::Vec 5 1 vb (0+(A++spB++D).size) ([]++Lib.strCells (A++spB++D))::zAA p lim L::F) w) (fun _=>0) () hS.pk (by exact Sb) ?_;clear hS;rintro - w hS ih2;clear ih2;repeat' first|(refine Qc 130 (c:=kW2 hS) (k':=?_);clear hS;rintro v w1 ⟨vc,rfl,hS⟩)|apply Qs|apply Qr|(apply Rs<;>intro hc<;>try exact No)|apply Qn|refine Ql ?_|refine Qf ?_|apply Qi|refine Qe ?_
   exact Run.weaken (by exact Sb) (ih vc _ hS.pk)
 | some v =>
   simp only[Option.isSome_some,if_true]at hS ih ⊢;clear ih;repeat' first|apply Qs|apply Qr|(apply Rs<;>intro hc<;>try exact No)|apply Qn|refine Ql ?_|refine Qf ?_|refine Qe ?_
   have e1:[]++Lib.strCells (A++spB++D)++Lib.strCells smB=Lib.byteCells ((A++spB++D).data.toList++[59]):=by simp[Lib.strCells,Lib.byteCells,smB]
   have e2:0+(A++spB++D).size+smB.size=((A++spB++D).data.toList++[59]).length:=by
    rw[List.length_append,Nat.zero_add];rfl
   rw[e1,e2]at hS;have hlen:((A++spB++D).data.toList++[59]).length≤1000000:=by
    rw[← e2];have:smB.size=1:=rfl;omega
   have hne:(A++spB++D).data.toList++[59]≠[]:=by simp
   generalize (A++spB++D).data.toList++[59]=l at hS hlen hne ⊢;repeat' first|(refine Qv 133 (zFw hne hlen hS.tk2) ?_;clear hS;intro w1 hS)|apply Qn|refine Ql ?_
   refine Qw Tryz.func75 ?_;exact⟨rfl,(o2.back hS).picks (by focus((repeat(first|apply Picks.all|apply Picks.nil|(refine Picks.cons (by repeat(first|apply Take.head|apply Take.tail)) ?_)|apply Picks.drop));done))⟩
end
def itoB (n:Nat):ByteArray:=⟨(Lib.decDigits n).toArray⟩
theorem zDC {n:Nat}(h:n<100):(itoB n).size≤2:=by
 show(Lib.decDigits n).toArray.size≤2;rw[List.size_toArray];unfold Lib.decDigits;split
 · simp
 · unfold Lib.decDigits
   rw[dif_pos (by omega)];simp
def zQ2:ByteArray:=⟨#[47]⟩
def lvB (a c:Nat):ByteArray:=itoB a++zQ2++itoB c
def zWF:ByteArray:=⟨#[114,101,97,100,121]⟩
def zWx:ByteArray:=⟨#[100,111,110,101]⟩
def stB (d:Bool)(pe a1 c1 a2 c2:Nat):ByteArray:=(if d then zWx else zWF)++spB++itoB pe++spB++lvB a1 c1++spB++lvB a2 c2
section
variable {we w:World}{ρ ρ0:List (Nat × Obj)}{σ F:List HP}{v:Value}{wb xb N:Nat}{W:Wd}
theorem zF0 {a c:Nat}(ha:a<100)(hc:c<100)(hS:St we ρ σ w):Cl Tryz.prog 166 [lvV a c] w fun v w'=>v = .string (lvB a c)∧St we ρ σ w':=by
 have za:=zDC ha;have zc:=zDC hc;have hs47:({ data := #[47] }:ByteArray).size=1:=rfl;unfold itoB at za zc;refine Run.calls1 (n:=11) Tryz.func166 rfl rfl rfl ?_;repeat' first|apply Qs|apply Qr|apply Qn|refine Ql ?_|(refine Qx ?_;clear hS;intro b w1 hS)
 refine(Run.regionH_cut (fun _:Unit => σ) (fun _=>[(2,.string (lvB a c))]) hS (List.Sublist.refl _) (by rfl) (by rfl) (by rfl) ?_ ?_)
 · clear hS
   intro w1 hS;refine RH.relist (listed':=bm 9 0) (by kernel_rfl) ?_;repeat' first|(apply Rh<;>intro hc<;>try exact No)|refine Yl 0 0 ?_|refine Yl 1 1 ?_|refine Yl 3 4 ?_|refine Yl 19 5 ?_|(refine Yt 55 3 ?_ (h:=by apply Still.addS;rfl;rfl;(first|omega|(simp only[ByteArray.size_append];omega)|(simp only[ByteArray.size_append]at *;omega))))|(refine Yt 127 7 ?_ (h:=by apply Still.addS;rfl;rfl;(first|omega|(simp only[ByteArray.size_append];omega)|(simp only[ByteArray.size_append]at *;omega))))|refine Yt 255 8 ?_|(refine Oc 74 (c:=zFB (by assumption) hS) (k':=?_);clear hS;rintro v w1 ⟨rfl,hS⟩;refine Xh ?_)|refine Jo ?_|refine Za 51 2 ?_|refine Za 63 6 ?_|(refine Yd 511 ?_;exact⟨(),Sb,hS.pk⟩)
 clear hS;rintro - w1 hS;refine Qw Tryz.func166 ?_;exact⟨rfl,hS⟩
theorem zKi {H:Hd}{n:Int}(ok:WOk ρ H N W)(hh:W.has n=true):0≤n∧∃x,H.ps[n.toNat]? = some x∧W.part n=x.x∧x∈H.ps∧zEg H.ps n=(pP x.sb,true):=by
 have hl:W.parts.length=H.ps.length:=by rw[← ok.parts,List.length_map]
 unfold Wd.has at hh;simp only[Bool.and_eq_true,decide_eq_true_eq]at hh;have hlt:n.toNat<H.ps.length:=by omega
 refine⟨hh.1,H.ps[n.toNat],List.getElem?_eq_getElem hlt,?_,List.getElem_mem hlt,?_⟩
 · unfold Wd.part
   rw[← ok.parts];simp[List.getD_eq_getElem?_getD,hlt]
 · unfold zEg
   rw[if_neg (by omega),List.getElem?_eq_getElem hlt]
theorem zNF {H:Hd}{n:Int}{x:PtH}(hx:H.ps[n.toNat]? = some x)(hS:St we ρ (zHy wb H W F) w):St we ρ (Row x.sb (sesL x.r x.x.s H.p x.db) 102::zDL x.bb 8 x.x.box::Each (ptI H.p) (H.ps.eraseIdx n.toNat)::Row wb (wdL H W.fresh) 68::Vec 79 4 H.vp H.ps.length (H.ps.flatMap ptyL)::zAA H.p zAB W.L::KN H.kb H.p W.heard W.K::zAD H.stb 8 (kvD H.ds)::Each devI H.ds::Vec 80 1 H.vm H.ms.length (H.ms.flatMap mgL)::Vec 33 13 H.ve W.evs.length (W.evs.flatMap evtL)::F) w:=by
 have h:=zDA (F:=Row wb (wdL H W.fresh) 68::Vec 79 4 H.vp H.ps.length (H.ps.flatMap ptyL)::zAA H.p zAB W.L::KN H.kb H.p W.heard W.K::zAD H.stb 8 (kvD H.ds)::Each devI H.ds::Vec 80 1 H.vm H.ms.length (H.ms.flatMap mgL)::Vec 33 13 H.ve W.evs.length (W.evs.flatMap evtL)::F) hx hS.pk;exact h
theorem zKd {H:Hd}{n:Int}{x:PtH}(hx:H.ps[n.toNat]? = some x)(hS:St we ρ (Row x.sb (sesL x.r x.x.s H.p x.db) 102::zDL x.bb 8 x.x.box::Each (ptI H.p) (H.ps.eraseIdx n.toNat)::Row wb (wdL H W.fresh) 68::Vec 79 4 H.vp H.ps.length (H.ps.flatMap ptyL)::zAA H.p zAB W.L::KN H.kb H.p W.heard W.K::zAD H.stb 8 (kvD H.ds)::Each devI H.ds::Vec 80 1 H.vm H.ms.length (H.ms.flatMap mgL)::Vec 33 13 H.ve W.evs.length (W.evs.flatMap evtL)::F) w):St we ρ (zHy wb H W F) w:=by
 have h:=zC9 (s:=x.x.s) (b:=x.x.box) hx hS;rw[show ptB (ptS x x.x.s) x.x.box=x from rfl,zBQ hx]at h;exact h.pk
theorem zH6 {n:Int}{d:Bool}{pe a1 c1 a2 c2:Nat}(hh:W.has n=true)(hd:(W.part n).s.dead=false)(hdo:zBz (W.part n).s=d)(hpe:(W.part n).s.peer=(pe:Int))
 (h1:zG9 (zA1 (W.part n).s) (zBs (W.part n).s true)=(a1:Int)) (h2:zFt (zA1 (W.part n).s) (zBs (W.part n).s true)=(c1:Int)) (h3:zG9 (zA1 (W.part n).s) (zBs (W.part n).s false)=(a2:Int)) (h4:zFt (zA1 (W.part n).s) (zBs (W.part n).s false)=(c2:Int))
 (hb:pe<100∧a1<100∧c1<100∧a2<100∧c2<100) (h:WSt we ρ0 wb N W (Row xb [pP wb] 125::F) w) :
 Cl Tryz.prog 118 [pP xb,pI n] w fun v w'=>v = .string (stB d pe a1 c1 a2 c2)∧WSt we ρ0 wb N W (Row xb [pP wb] 125::F) w':=by
 obtain⟨H,ρ,ho,ok,hS⟩:=h;obtain⟨hn,x,hx,hpt,hxm,hsa⟩:=zKi ok hh;rw[hpt]at hd hdo hpe h1 h2 h3 h4;have hp:=ok.pts x hxm;replace hS:=zNF hx hS;suffices Cl Tryz.prog 118 [pP xb,pI n] w fun v w'=>v = .string (stB d pe a1 c1 a2 c2)∧St we ρ (Row x.sb (sesL x.r x.x.s H.p x.db) 102::zDL x.bb 8 x.x.box::Each (ptI H.p) (H.ps.eraseIdx n.toNat)::Row wb (wdL H W.fresh) 68::Vec 79 4 H.vp H.ps.length (H.ps.flatMap ptyL)::zAA H.p zAB W.L::KN H.kb H.p W.heard W.K::zAD H.stb 8 (kvD H.ds)::Each devI H.ds::Vec 80 1 H.vm H.ms.length (H.ms.flatMap mgL)::Vec 33 13 H.ve W.evs.length (W.evs.flatMap evtL)::Row xb [pP wb] 125::F) w' from
  this.mono fun v w' ⟨h1,h2⟩=>⟨h1,H,ρ,ho,ok,zKd hx h2⟩
 have kS:∀{F w},St we ρ (Row wb (wdL H W.fresh) 68::Vec 79 4 H.vp H.ps.length (H.ps.flatMap ptyL)::F) w→_:=fun hS=>zBt (n:=n) hS
 rw[hsa]at kS;simp only at kS;have kDd:∀{F w},St we ρ (Row x.sb (sesL x.r x.x.s H.p x.db) 102::F) w→_:=fun hS=>zF8 hS
 have kDn:∀{F w},St we ρ (Row x.sb (sesL x.r x.x.s H.p x.db) 102::F) w→_:=fun hS=>zBg hp.rep hS
 have kPe:∀{F w},St we ρ (Row x.sb (sesL x.r x.x.s H.p x.db) 102::F) w→_:=fun hS=>zKT hS
 have kN1:∀{F w},St we ρ (Row x.sb (sesL x.r x.x.s H.p x.db) 102::F) w→_:=fun hS=>zE8 (own:=true) hp.ok hp.rep hS
 have kN2:∀{F w},St we ρ (Row x.sb (sesL x.r x.x.s H.p x.db) 102::F) w→_:=fun hS=>zE8 (own:=false) hp.ok hp.rep hS
 rw[hd]at kDd;rw[hdo]at kDn;rw[hpe]at kPe;rw[h1,h2]at kN1;rw[h3,h4]at kN2;clear h1 h2 h3 h4 hpe hdo hd hsa hpt;obtain⟨b1,b2,b3,b4,b5⟩:=hb;have z1:=zDC b1;have z2:=zDC b2;have z3:=zDC b3;have z4:=zDC b4;have z5:=zDC b5;have hl1:(lvB a1 c1).size≤10:=by unfold lvB;rw[ByteArray.size_append,ByteArray.size_append];have:zQ2.size=1:=rfl;omega
 have hl2:(lvB a2 c2).size≤10:=by unfold lvB;rw[ByteArray.size_append,ByteArray.size_append];have:zQ2.size=1:=rfl;omega
 have hw1:∀{σ:List HP} {w:World},St we ρ σ w→_:=fun hS=>zF0 b2 b3 hS
 have hw2:∀{σ:List HP} {w:World},St we ρ σ w→_:=fun hS=>zF0 b4 b5 hS
 unfold stB;generalize lvB a1 c1=l1 at hl1 hw1 ⊢;generalize lvB a2 c2=l2 at hl2 hw2 ⊢;have kI:∀{σ:List HP} {w:World},St we ρ σ w→Cl Tryz.prog 74 [pI pe] w fun v w'=>v = .string (itoB pe)∧St we ρ σ w':=fun hS=>zFB b1 hS
 generalize itoB pe=pb at z1 kI ⊢;have hs32:({ data := #[32] }:ByteArray).size=1:=rfl;have hsr:({ data := #[114,101,97,100,121] }:ByteArray).size=5:=rfl;have hsd:({ data := #[100,111,110,101] }:ByteArray).size=4:=rfl;cases d;all_goals
  refine Run.calls2 (n:=46) Tryz.func118 rfl rfl rfl ?_;repeat' first|(refine Qv 14 (kS hS.tk2) ?_;clear hS;intro w1 hS)|(refine Qv 15 (kDd hS.tk) ?_;clear hS;intro w1 hS)|(refine Qv 27 (kDn hS.tk) ?_;clear hS;intro w1 hS)|(refine Qv 165 (kPe hS.tk) ?_;clear hS;intro w1 hS)|(refine Qv 57 (kN1 hS.tk) ?_;clear hS;intro w1 hS)|(refine Qv 57 (kN2 hS.tk) ?_;clear hS;intro w1 hS)|(refine Qv 166 (hw1 hS) ?_;clear hS;intro w1 hS)|(refine Qv 166 (hw2 hS) ?_;clear hS;intro w1 hS)|(refine Qv 74 (kI hS) ?_;clear hS;intro w1 hS)|(refine Ql ?_ (h:=by apply Still.addS;rfl;rfl;(first|omega|(simp only[ByteArray.size_append];omega))))|apply Qs|apply Qr|(apply Rs<;>intro hc<;>try exact No)|apply Qn|refine Ql ?_|refine Qt ?_|refine Qf ?_|apply Qk|apply Qb|apply Qi
  refine Qw Tryz.func118 ?_;exact Xp
end
end Go.Proofs.YtcikdogkkgefcaaGreatDoor
