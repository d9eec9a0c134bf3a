/- Go's library functions that play uses: ContainsFunc, Atoi, Itoa, FieldsFunc, FormatUint. play.Number, numbers: where all are numbers. play.pair, open, message: what reads a line. -/
import Derived.Shelf.Strconv.Atoi
import Derived.Shelf.Strconv.Itoa3
import Derived.Lib.AtoiErrMem
import Derived.Shelf.Strings.FieldsFuncGrows
import Derived.Lib.AppendStr
import Derived.Lib.UnsafeStr
import Derived.Shelf.Strings.Builder1
import Derived.Test.YtcikdogkkgefcaaGreatDoorMA30
namespace Go.Proofs.YtcikdogkkgefcaaGreatDoor
set_option maxRecDepth 8000
set_option maxHeartbeats 16000000
set_option linter.unusedVariables false
set_option linter.unusedSimpArgs false
open Go Go.RowKit
section
variable {we w:World}{ρ:List (Nat × Obj)}{σ F:List HP}{v:Value}
theorem zUj {el:TypeId}{size n:Nat}{xs:List Value}{w':World}(h:St we ρ σ w)(hown:w'.ownsRow w.heap.size el size v n xs)(hw:Below w.heap.size w w'):St we ρ (Vec el size v n xs :: σ) w':=by
 have h0:w'.ownsRow 0 el size v n xs:=by
  refine⟨hown.1,?_⟩;rcases hown.2 with h1|⟨g,cap,cur,h1,h2,h3⟩
  · exact .inl h1
  · exact .inr ⟨g,cap,cur,h1,Nat.zero_le _,h3⟩
 refine(zAh (el:=el) (size:=size) h).turn hw.os hw.tape hw.output hw.size (fun X hX hn=>⟨v.ownBlock.toList,by unfold Vec;exact⟨h0,rfl⟩,?_,?_,?_,fun b hb _=>hw.block b hb⟩)
 · cases v.ownBlock<;>simp
 · intro b hb
   rcases hown.2 with ⟨rfl,-⟩|⟨g,cap,cur,rfl,h2,h3⟩
   · simp[Value.ownBlock]at hb
   · simp[Value.ownBlock]at hb;subst hb;exact .inr h2
 · intro b hb
   rcases hown.2 with ⟨rfl,-⟩|⟨g,cap,cur,rfl,h2,h3,-⟩
   · simp[Value.ownBlock]at hb
   · simp[Value.ownBlock]at hb;subst hb;exact(Array.getElem?_eq_some_iff.1 h3).1
def zIQ (c:Nat):Bool:=decide ((c:Int)<48) || decide (57<(c:Int))
theorem zKj {x:Nat}(hS:St we ρ σ w):Cl Tryz.prog 119 [.int .i32 x] w fun v w'=>v = .bool (zIQ x)∧St we ρ σ w':=by
 unfold zIQ;refine Run.calls1 (n:=9) Tryz.func119 rfl rfl rfl ?_;repeat' first|apply Qs|apply Qr|(apply Rs<;>intro hc<;>try exact No)|apply Qn|refine Ql ?_|refine Qy ?_|refine Qz ?_
 all_goals
  refine Qw Tryz.func119 ?_;exact⟨by simp_all [tup],hS⟩
def zFM (c:Nat):Bool:=decide ((c:Int)=32)
theorem zKO {x:Nat}(hS:St we ρ σ w):Cl Tryz.prog 36 [.int .i32 x] w fun v w'=>v = .bool (zFM x)∧St we ρ σ w':=by
 unfold zFM;refine Run.calls1 (n:=5) Tryz.func36 rfl rfl rfl ?_;repeat' first|apply Qs|apply Qr|(apply Rs<;>intro hc<;>try exact No)|apply Qn|refine Ql ?_
 all_goals
  refine Qw Tryz.func36 ?_;exact⟨by simp_all [tup],hS⟩
theorem zJN {s:ByteArray}(hS:St we ρ σ w) :
 Cl Tryz.prog 120 [.string s,.func (.func 119) #[] #[]] w fun v w'=>v = .bool (decide (0≤Lib.idxFunc zIQ true s))∧St we ρ σ w':=by
 have hp:PredGrows Tryz.prog 119 #[] zIQ w:=by
  intro W x hx hb;have h1:=(zKj (x:=x) (St.start W [] (by simp))).go;refine h1.mono fun en w' hr=>?_
  cases en with
  | returned v =>
    obtain⟨rfl,h2⟩:=(show v = .bool (zIQ x)∧St W [] [] w' from hr)
    exact⟨rfl,h2.below⟩
  | _=>exact hr.elim
 refine⟨(Any.strings_ContainsFunc_grows zWS 119 #[] (enters_of (Tryz.func119) (by kernel_rfl) rfl) zIQ s w hp).mono fun e w' ⟨h,hw⟩=>?_⟩;subst h;exact⟨rfl,hS.below_grow hw⟩
theorem zMJ {s:ByteArray}(hs:s.size≤100000)(hS:St we ρ σ w) :
 Cl Tryz.prog 35 [.string s,.func (.func 36) #[] #[]] w fun v w'=>St we ρ (Vec 9 1 v (Lib.goFieldsP zFM s).length ((Lib.goFieldsP zFM s).flatMap strL) :: σ) w':=by
 have hp:PredGrows Tryz.prog 36 #[] zFM w:=by
  intro W x hx hb;have h1:=(zKO (x:=x) (St.start W [] (by simp))).go;refine h1.mono fun en w' hr=>?_
  cases en with
  | returned v =>
    obtain⟨rfl,h2⟩:=(show v = .bool (zFM x)∧St W [] [] w' from hr)
    exact⟨rfl,h2.below⟩
  | _=>exact hr.elim
 refine⟨(Any.strings_FieldsFunc_grows zVU 36 #[] (enters_of (Tryz.func36) (by kernel_rfl) rfl) zFM s w (by omega) hp (by kernel_rfl) (by kernel_rfl)).mono fun e w' ⟨A,h,hA,hown,hw⟩=>?_⟩;subst h;rw[← zEc]at hown;exact zUj hS hown hw
theorem zQY {s:ByteArray}{n:Int}(hs:s.size≤18)(h:Lib.atoi s.data.toList=some n)(hS:St we ρ σ w) :
 Cl Tryz.prog 121 [.string s] w fun v w'=>v = .tuple #[pI n,.nilIface]∧St we ρ σ w':=by
 refine⟨(Any.strconv_Atoi zVV s n hs h w).mono fun e w' ⟨h,t,hw⟩=>?_⟩;subst h hw;exact⟨rfl,hS.below_grow (Lib.bytesWorld_below w _ t)⟩
theorem zFB {i:Nat}(hi:i<100)(hS:St we ρ σ w) :
 Cl Tryz.prog 74 [pI i] w fun v w'=>v = .string ⟨(Lib.decDigits i).toArray⟩∧St we ρ σ w':=by
 refine⟨(Any.strconv_Itoa_small zVW i hi w).mono fun e w' ⟨h,hw⟩=>?_⟩;subst h hw;exact⟨rfl,hS⟩
end
section
variable {P:Program}{n:Nat}{e:Env}{t t' ty:TypeId}{x:Operand}{c:Value}{S:World→Prop}
theorem Still.ifNil (hx:ev e x=some .nilIface)(hy:ev e (.const c)=some .nilIface)(ht:P.underlying t=some (.interface (P.methodsAt t))):Still P n e S (.binOp .eql t x (.const c) t') ty (.bool true) :=
 Still.bin hx hy (fun w=>by rw[eqGuard_nil_constR];rfl) (fun w _=>by simp[binOp,run_equal_nil_nil w t ht])
end
def zQh:ByteArray:=⟨#[48]⟩
def numG (s:ByteArray):Int:=(Lib.atoi s.data.toList).getD 0
def okN (s:ByteArray):Bool:=!decide (s=⟨#[]⟩) && decide (s.size≤9) && !decide (0≤Lib.idxFunc zIQ true s) && (decide (zGh s≠48) || decide (s=zQh)) && (Lib.atoi s.data.toList).isSome
section
variable {we w:World}{ρ:List (Nat × Obj)}{σ F:List HP}{v:Value}
theorem zHP {s:ByteArray}(hok:okN s=true)(hS:St we ρ σ w) :
 Cl Tryz.prog 72 [.string s] w fun v w'=>v = .tuple #[pI (numG s),.bool true]∧St we ρ σ w':=by
 unfold okN at hok;simp only[Bool.and_eq_true,Bool.not_eq_true',decide_eq_false_iff_not,decide_eq_true_eq,Bool.or_eq_true]at hok;obtain⟨⟨⟨⟨h0,h9⟩,hi⟩,h48⟩,hok⟩:=hok;have kC:∀{σ:List HP} {w:World},St we ρ σ w→_:=fun hS=>zJN (s:=s) hS
 simp only[hi,decide_false]at kC;have hz:0<s.size:=by
  refine Nat.pos_of_ne_zero fun h=>h0 ?_
  obtain⟨d⟩:=s;simp only[ByteArray.size]at h;rw[Array.eq_empty_of_size_eq_zero h]
 have hd0:((0:Int)).toNat<s.size:=hz;have hbb:zGh s=(s[(0:Int).toNat]'hd0).toNat:=by unfold zGh;rw[dif_pos hz];rfl
 rw[hbb]at h48;obtain⟨m,hm⟩:=Option.isSome_iff_exists.1 hok;have kA:∀{σ:List HP} {w:World},St we ρ σ w→_:=fun hS=>zQY (s:=s) (by omega) hm hS
 unfold numG;rw[hm];refine Run.calls1 (n:=36) Tryz.func72 rfl rfl rfl ?_;repeat' first|(apply Rs<;>intro hc<;>try(first|contradiction|(exfalso;omega)))|(refine Ql ?_ (h:=by apply Still.byteAt (s:=s) (i:=0) (h1:=hd0);rfl;rfl;rfl;omega))|(refine Run.cond_false (by show some (Value.bool (!decide (s=_)))=some (Value.bool false);have e:s=zQh:=h48.resolve_left (by omega);simp[e,zQh]) ?_)|(refine Qv 120 (kC hS) ?_;clear hS;intro w1 hS)|(refine Qv 121 (kA hS) ?_;clear hS;intro w1 hS)|apply Qs|apply Qr|apply Qn|refine Ql ?_|refine Qy ?_|refine Qz ?_|refine Qf ?_|apply Qk
 all_goals
  refine(Run.regionH_cut (fun _:Unit => σ) (fun _=>[(2,pI m),(3,.bool true)]) hS (List.Sublist.refl _) (by rfl) (by rfl) (by rfl) ?_ ?_)
  · clear hS
    intro w1 hS;refine RH.relist (listed':=bm 5 0) (by kernel_rfl) ?_;repeat' first|(apply Rh<;>intro hc<;>try exact No)|refine Yt 0 0 ?_|refine Yt 1 1 ?_|(refine Yt 3 2 ?_ (h:=by first|(apply Still.ifNil;rfl;rfl;rfl)|exact Still.any))|refine Yt 7 3 ?_|refine Yt 15 4 ?_|(refine Yd 31 ?_;exact⟨(),Sb,hS.pk⟩)
  clear hS;rintro - w1 hS;refine Qw Tryz.func72 ?_;exact⟨rfl,hS⟩
theorem zCv {l:List ByteArray}{pb off cap:Nat}{cs:List Value}{el:TypeId}{fr:Nat × Nat}(h10:l.length≤10)(hok:∀s∈l,okN s=true)(hr:Rd ρ σ pb (.cells cs.toArray el fr))(hc:∀(i:Nat) (h:i<l.length),cs[off+i]? = some (.string l[i]))(hS:St we ρ σ w) :
 Cl Tryz.prog 116 [.slice (some ⟨pb,off,none⟩) l.length cap] w fun v w'=>∃sv,v = .tuple #[sv,.bool true]∧St we ρ (Vec 3 1 sv (l.map numG).length ((l.map numG).flatMap intL) :: σ) w':=by
 refine Run.calls1 (n:=28) Tryz.func116 rfl rfl rfl ?_;repeat' first|apply Qs|apply Qr|apply Qn|refine Ql ?_|apply Qb
 refine Run.while (fun x:Nat × Value=>[(9,.slice (some ⟨pb,off,none⟩) l.length cap),(10,pI l.length),(11,pI x.1),(4,x.2)])
  (fun x w=>x.1≤l.length∧St we ρ (Vec 3 1 x.2 ((l.take x.1).map numG).length (((l.take x.1).map numG).flatMap intL) :: σ) w) (fun x=>l.length - x.1) (0,.slice none 0 0) ⟨by simp,zAh hS.pk⟩ (by exact Sb) ?_
 clear hS;rintro⟨i,ov⟩ w ⟨hi,hS⟩ ih;simp only at hi hS ih ⊢;by_cases hlt:i<l.length
 · have h0:=hc i hlt
   have hoy:=hok l[i] (List.getElem_mem hlt);have hd:l.take (i+1)=l.take i++[l[i]]:=List.take_succ_eq_append_getElem hlt;generalize l[i]=y at hd h0 hoy;replace ih:=fun v w h=>ih (i+1,v) w ⟨by simp only;omega,h⟩ (by simp only;omega)
   have hal:((l.take i).map numG).length≤10:=by rw[List.length_map,List.length_take];omega
   simp only[hd,List.map_append,List.map_cons,List.map_nil,List.length_append,List.length_singleton]at ih;have hfl:∀l:List Int,(l++[numG y]).flatMap intL=l.flatMap intL++[pI (numG y)]:=fun l=>by rw[List.flatMap_append];rfl
   simp only[hfl]at ih;generalize ((l.take i).map numG).flatMap intL=xs at hS ih;generalize ((l.take i).map numG).length=al at hS ih hal;repeat' first|(refine Ql ?_ (h:=by apply Still.load;rfl;rfl;exact hr.tail;exact h0))|(refine Qv 72 (zHP hoy hS) ?_;clear hS;intro w1 hS)|(apply RO.op;apply OP.append (size:=1) (bytes:=8) (k:=1) (news:=[pI (numG y)]) hS;rfl;rfl;rfl;rfl;rfl;rfl;rfl;rfl;exact(by omega);exact An;(exact Rd.any);rfl;rfl;exact(by intro v hv;simp at hv;subst hv;rfl);(exact(by unfold maxLen;omega));(exact(by omega));rfl;clear hS;intro v2 w1 hS)|apply Qs|apply Qr|(apply Rs<;>intro hc<;>try exact No)|apply Qn|refine Ql ?_|(refine Qg ?_;clear hS;intro b w1 hS)|refine Qt ?_|refine Qf ?_|apply Qk|apply Qb|apply Qi
   exact Run.weaken (e':=[(9,.slice (some ⟨pb,off,none⟩) l.length cap),(10,pI l.length),(11,pI ((i+1:Nat):Int)),(4,v2)]) (by exact Sb) (ih v2 _ hS.pk)
 · obtain rfl:i=l.length:=by omega
   rw[List.take_length]at hS;repeat' first|apply Qs|apply Qr|(apply Rs<;>intro hc<;>try exact No)|apply Qn|refine Ql ?_|refine Qf ?_|refine Qe ?_
   refine Qw Tryz.func116 ?_;exact⟨_,rfl,hS⟩
end
def zBw (ρ:List (Nat × Obj))(pb off:Nat)(l:List ByteArray):Prop:=∃cs el fr,(pb,Obj.cells (List.toArray cs) el fr) ∈ ρ∧∀(i:Nat) (h:i<l.length),cs[off+i]? = some (.string l[i])
def lnL (k a b c:Int)(nm:ByteArray)(wa wc tl:Int):List Value:=[pI k,pI a,pI b,pI c,.string nm,pI wa,pI wc,.slice none 0 0,pI tl]
section
variable {we w:World}{ρ:List (Nat × Obj)}{σ F:List HP}{v:Value}{pb off cap bk bk2:Nat}{k tl:Int}
theorem zFe {s1 s2:ByteArray}(hl:zBw ρ pb off [s1,s2])(h1:okN s1=true)(h2:okN s2=true)(hS:St we ρ (Row bk [pI k] 3::F) w) :
 Cl Tryz.prog 170 [.slice (some ⟨pb,off,none⟩) 2 cap,pP bk] w fun v w'=>v = .tuple #[.agg (lnL k (numG s1) (numG s2) 0 ByteArray.empty 0 0 0).toArray,.bool true]∧St we ρ (Row bk [pI k] 3::F) w':=by
 obtain⟨cs,el,fr,hm,hc⟩:=hl;have kN:∀{σ:List HP} {w:World},St we ρ σ w→_:=fun hS=>zCv (l:=[s1,s2]) (by simp) (by simp[h1,h2]) (Rd.ro hm) hc hS (cap:=cap)
 clear h1 h2;generalize hn1:numG s1=n1 at kN;generalize hn2:numG s2=n2 at kN;simp only[List.map_cons,List.map_nil,hn1,hn2]at kN ⊢;refine Run.calls2 (n:=29) Tryz.func170 rfl rfl rfl ?_;repeat' first|(refine Qc 116 (c:=kN hS) (k':=?_);clear hS;rintro v w1 ⟨sv,rfl,hS⟩;obtain⟨ρ2,o2,s2,hT⟩:=zAH (l:=[n1,n2]) zAZ hS;clear hS;have hS:=hT;clear hT;obtain⟨q,qc,rfl,-⟩:=s2.val)|apply Qs|apply Qr|(apply Rs<;>intro hc<;>try exact No)|apply Qn|refine Ql ?_|(refine Qa ?_;clear hS;intro b w1 hS)|refine Qy ?_|refine Qf ?_|apply Qk
 obtain⟨b0,o0,cs0,e0,f0,rfl,m0,h0⟩:=s2.int (i:=0) (by simp);obtain⟨b1,o1,cs1,e1,f1,hp,m1,h1⟩:=s2.int (i:=1) (by simp);obtain⟨rfl,rfl⟩:b0=b1∧o0=o1:=by simpa using hp
 simp only[Nat.add_zero,List.getElem_cons_zero,List.getElem_cons_succ]at h0 h1;refine(Run.regionH_cut (fun _:Unit=>Row b (lnL k n1 n2 0 ByteArray.empty 0 0 0) 167::Row bk [pI k] 3::F) (fun _=>[(3,pP b),(4,.bool true)]) hS (.cons _ (List.Sublist.refl _)) (by rfl) (by rfl) (by rfl) ?_ ?_)
 · clear hS
   intro w1 hS;refine RH.relist (listed':=bm 11 0) (by kernel_rfl) ?_;repeat' first|(refine Yt 0 0 ?_ (h:=by first|(apply Still.load;rfl;rfl;exact Rd.ro m0;exact h0)|(apply Still.load;rfl;rfl;exact Rd.ro m1;exact h1)|(apply Still.load;rfl;rfl;exact Rd.ro m2;exact h2)|exact Still.an))|refine Yt 1 1 ?_|(refine Yt 3 2 ?_ (h:=by first|exact Sx|exact Still.any))|(refine Yt 7 3 ?_ (h:=by first|(apply Still.load;rfl;rfl;exact Rd.ro m0;exact h0)|(apply Still.load;rfl;rfl;exact Rd.ro m1;exact h1)|(apply Still.load;rfl;rfl;exact Rd.ro m2;exact h2)|exact Still.an))|refine Yt 15 4 ?_|(refine Yt 31 5 ?_ (h:=by first|exact Sx|exact Still.any))|(refine Yt 63 6 ?_ (h:=by first|(apply Still.load;rfl;rfl;exact Rd.ro m0;exact h0)|(apply Still.load;rfl;rfl;exact Rd.ro m1;exact h1)|(apply Still.load;rfl;rfl;exact Rd.ro m2;exact h2)|exact Still.an))|(refine Yt 127 7 ?_ (h:=by first|(apply Still.load;rfl;rfl;exact Rd.ro m0;exact h0)|(apply Still.load;rfl;rfl;exact Rd.ro m1;exact h1)|(apply Still.load;rfl;rfl;exact Rd.ro m2;exact h2)|exact Still.any))|(refine Yt 255 8 ?_ (h:=by first|(apply Still.load;rfl;rfl;exact Rd.ro m0;exact h0)|(apply Still.load;rfl;rfl;exact Rd.ro m1;exact h1)|(apply Still.load;rfl;rfl;exact Rd.ro m2;exact h2)|exact Still.any))|refine Yt 1023 10 ?_|(refine Od ?_;clear hS;intro w1 hS;refine Xh ?_)|refine Jo ?_|refine Za 511 9 ?_|(refine Yd 2047 ?_;exact⟨(),Sb,hS.pk⟩)
 clear hS;rintro - w1 hS;refine Qw Tryz.func170 ?_;exact⟨rfl,(o2.back hS).picks (by focus((repeat(first|apply Picks.all|apply Picks.nil|(refine Picks.cons (by repeat(first|apply Take.head|apply Take.tail)) ?_)|apply Picks.drop));done))⟩
def zMT:ByteArray:=⟨#[45]⟩
def zIM (s:ByteArray):ByteArray:=if s=zMT then zQh else s
theorem zOO {ρ:List (Nat × Obj)}{q:Option Addr}{c:Nat}{l:List Int}(h:Sl ρ intL 1 (.slice q l.length c) l)(hl:0<l.length):∃b o cs el fr,q=some ⟨b,o,none⟩∧(b,Obj.cells (List.toArray cs) el fr) ∈ ρ∧∀(i:Nat) (hi:i<l.length),cs[o+i]? = some (pI l[i]):=by
 obtain⟨p',cap',e,_,_,hr⟩:=h.val;simp only[Value.slice.injEq]at e;obtain⟨rfl,-,rfl⟩:=e;obtain⟨b,off,cs,el,fr,rfl,hm,hc⟩:=hr (by omega);refine⟨b,off,cs,el,fr,rfl,hm,fun i hi=>?_⟩;have:=hc i hi;rw[Nat.mul_one]at this;exact zC5 (by simpa[intL]using this)
theorem zJE {s1 nm s3 s4:ByteArray}(hl:zBw ρ pb off [s1,nm,s3,s4])(k1:okN s1=true)(k3:okN s3=true)(k4:okN (zIM s4)=true)(hS:St we ρ F w) :
 Cl Tryz.prog 123 [.slice (some ⟨pb,off,none⟩) 4 cap] w fun v w'=>v = .tuple #[.agg (lnL 3 (numG s1) (numG s3) (if s4=zMT then -1 else numG s4) nm 0 0 1).toArray,.bool true]∧St we ρ F w':=by
 obtain⟨cs,el,fr,hm,hc⟩:=hl;have h0:=hc 0 (by simp);have h1:=hc 1 (by simp);have h2:=hc 2 (by simp);have h3:=hc 3 (by simp);clear hc;simp only[Nat.add_zero,List.getElem_cons_zero,List.getElem_cons_succ]at h0 h1 h2 h3;have kN:∀{σ:List HP} {w:World} {bx:Nat},St we ρ (Row bx [.string s1,.string s3,.string (zIM s4)] 9 :: σ) w→_:=fun {σ w bx} hS=>zCv (l:=[s1,s3,zIM s4]) (pb:=bx) (off:=0) (cap:=3) (cs:=[.string s1,.string s3,.string (zIM s4)]) (by simp) (by simp[k1,k3,k4]) (Rd.own .head) (by
  intro i hi;match i,hi with
  | 0,_=>rfl
  | 1,_=>rfl
  | 2,_=>rfl) hS
 clear k1 k3 k4;generalize hn1:numG s1=n1 at kN;generalize hn2:numG s3=n2 at kN;generalize hn3:numG (zIM s4)=n3 at kN;simp only[List.map_cons,List.map_nil,hn1,hn2,hn3]at kN ⊢;have hcc:(if s4=zMT then(-1:Int) else numG s4)=if s4=zMT then -1 else n3:=by
  by_cases h:s4=zMT
  · rw[if_pos h,if_pos h]
  · rw[if_neg h,if_neg h,← hn3];unfold zIM;rw[if_neg h]
 rw[hcc];clear hcc hn1 hn2 hn3;refine Run.calls1 (n:=52) Tryz.func123 rfl rfl rfl ?_;repeat' first|(refine Ql ?_ (h:=by apply Still.load;rfl;rfl;exact Rd.ro hm;exact h3))|apply Qs|apply Qr|(apply Rs<;>intro hc<;>try exact No)|apply Qn|refine Ql ?_|(refine Qa ?_;clear hS;intro b w1 hS)|refine Qt ?_|refine Qf ?_|apply Qk
 all_goals
  refine Run.weaken (e':=[(0,.slice (some ⟨pb,off,none⟩) 4 cap),(2,pP b),(4,.string (zIM s4))]) (by
   first
    | (have hp:zIM s4=zQh:=if_pos hc
       rw[hp];focus((repeat(first|exact .nil|refine .cons rfl ?_));done))
    | (have hp:zIM s4=s4:=if_neg hc
       rw[hp];focus((repeat(first|exact .nil|refine .cons rfl ?_));done))) ?_
  clear hc;generalize hpr:zIM s4=pr at kN;refine(Run.regionH_cut (fun z:Value=>Vec 3 1 z [n1,n2,n3].length ([n1,n2,n3].flatMap intL)::Row b (lnL 0 0 0 0 ByteArray.empty 0 0 0) 167::F) (fun z=>[(0,.slice (some ⟨pb,off,none⟩) 4 cap),(2,pP b),(5,z),(6,.bool true)]) hS (List.Sublist.refl _) (by rfl) (by rfl) (by rfl) ?_ ?_)
  · clear hS
    intro w1 hS;refine RH.relist (listed':=bm 14 0) (by kernel_rfl) ?_;repeat' first|refine Yt 0 0 ?_|(refine Yt 1 1 ?_ (h:=by first|exact Sx|exact Still.any))|(refine Yt 3 2 ?_ (h:=by first|(apply Still.load;rfl;rfl;exact Rd.ro hm;exact h0)|(apply Still.load;rfl;rfl;exact Rd.ro hm;exact h1)|(apply Still.load;rfl;rfl;exact Rd.ro hm;exact h2)|(apply Still.load;rfl;rfl;exact Rd.ro hm;exact h3)|exact Still.an))|refine Yt 7 3 ?_|(refine Yt 15 4 ?_ (h:=by first|exact Sx|exact Still.any))|(refine Yt 31 5 ?_ (h:=by first|(apply Still.load;rfl;rfl;exact Rd.ro hm;exact h0)|(apply Still.load;rfl;rfl;exact Rd.ro hm;exact h1)|(apply Still.load;rfl;rfl;exact Rd.ro hm;exact h2)|(apply Still.load;rfl;rfl;exact Rd.ro hm;exact h3)|exact Still.an))|refine Yt 63 6 ?_|refine Yt 511 9 ?_|refine Yt 1023 10 ?_|refine Yt 2047 11 ?_|refine Yt 4095 12 ?_|refine Yt 8191 13 ?_|(refine Og ?_;clear hS;intro b w1 hS;refine Xh ?_)|(refine Oc 116 (c:=kN hS) (k':=?_);clear hS;rintro v w1 ⟨sv,rfl,hS⟩;refine Xh ?_)|refine Jo ?_|refine Za 127 7 ?_|refine Za 255 8 ?_|(refine Yd 16383 ?_;exact⟨_,Sb,hS.pk⟩)
  clear hS kN;rintro sv w1 hS;obtain⟨ρ2,o2,s2,hT⟩:=zAH (l:=[n1,n2,n3]) zAZ hS;clear hS;have hS:=hT;clear hT;obtain⟨q,qc,rfl,-⟩:=s2.val;obtain⟨b0,o0,cs0,e0,f0,rfl,m0,hc0⟩:=zOO s2 (by simp);have g0:=hc0 0 (by simp);have g1:=hc0 1 (by simp);have g2:=hc0 2 (by simp);clear hc0;simp only[Nat.add_zero,List.getElem_cons_zero,List.getElem_cons_succ]at g0 g1 g2;refine Run.weaken (e':=[(0,.slice (some ⟨pb,off,none⟩) 4 cap),(2,pP b),(5,.slice (some ⟨b0,o0,none⟩) 3 qc),(6,.bool true)]) (by exact Sb) ?_;repeat' first|apply Qs|apply Qr|apply Qn|refine Ql ?_|refine Qf ?_|apply Qk
  refine(Run.regionH_cut (fun z:Nat=>Row z (List.take 8 (lnL 3 n1 n2 n3 nm 0 0 0)) 57::Row b (lnL 0 0 0 0 ByteArray.empty 0 0 0) 167::F) (fun z=>[(0,.slice (some ⟨pb,off,none⟩) 4 cap),(2,pP b),(7,pP z)]) hS (List.Sublist.refl _) (by rfl) (by rfl) (by rfl) ?_ ?_)
  · clear hS
    intro w1 hS;refine RH.relist (listed':=bm 15 0) (by kernel_rfl) ?_;repeat' first|refine Yt 0 0 ?_|(refine Yt 1 1 ?_ (h:=by first|exact Sx|exact Still.any))|(refine Yt 3 2 ?_ (h:=by first|(apply Still.load;rfl;rfl;exact Rd.ro (o2.sub _ hm);exact h1)|(apply Still.load;rfl;rfl;exact Rd.ro m0;exact g0)|(apply Still.load;rfl;rfl;exact Rd.ro m0;exact g1)|(apply Still.load;rfl;rfl;exact Rd.ro m0;exact g2)|exact Still.an))|refine Yt 7 3 ?_|(refine Yt 15 4 ?_ (h:=by first|exact Sx|exact Still.any))|(refine Yt 31 5 ?_ (h:=by first|(apply Still.load;rfl;rfl;exact Rd.ro (o2.sub _ hm);exact h1)|(apply Still.load;rfl;rfl;exact Rd.ro m0;exact g0)|(apply Still.load;rfl;rfl;exact Rd.ro m0;exact g1)|(apply Still.load;rfl;rfl;exact Rd.ro m0;exact g2)|exact Still.an))|refine Yt 63 6 ?_|(refine Yt 127 7 ?_ (h:=by first|exact Sx|exact Still.any))|(refine Yt 255 8 ?_ (h:=by first|(apply Still.load;rfl;rfl;exact Rd.ro (o2.sub _ hm);exact h1)|(apply Still.load;rfl;rfl;exact Rd.ro m0;exact g0)|(apply Still.load;rfl;rfl;exact Rd.ro m0;exact g1)|(apply Still.load;rfl;rfl;exact Rd.ro m0;exact g2)|exact Still.an))|refine Yt 511 9 ?_|(refine Yt 1023 10 ?_ (h:=by first|exact Sx|exact Still.any))|(refine Yt 2047 11 ?_ (h:=by first|(apply Still.load;rfl;rfl;exact Rd.ro (o2.sub _ hm);exact h1)|(apply Still.load;rfl;rfl;exact Rd.ro m0;exact g0)|(apply Still.load;rfl;rfl;exact Rd.ro m0;exact g1)|(apply Still.load;rfl;rfl;exact Rd.ro m0;exact g2)|exact Still.an))|(refine Yt 4095 12 ?_ (h:=by first|(apply Still.load;rfl;rfl;exact Rd.ro (o2.sub _ hm);exact h1)|(apply Still.load;rfl;rfl;exact Rd.ro m0;exact g0)|(apply Still.load;rfl;rfl;exact Rd.ro m0;exact g1)|(apply Still.load;rfl;rfl;exact Rd.ro m0;exact g2)|exact Still.any))|(refine Oa ?_;clear hS;intro b w1 hS;refine Xh ?_)|(refine Od ?_;clear hS;intro w1 hS;refine Xh ?_)|refine Jo ?_|refine Za 8191 13 ?_|refine Za 16383 14 ?_|(refine Yd 32767 ?_;exact⟨_,Sb,hS.pk⟩)
  clear hS;rintro b7 w1 hS;repeat' first|(refine Ql ?_ (h:=by apply Still.load;rfl;rfl;exact Rd.ro (o2.sub _ hm);exact h3))|(refine Ql ?_ (h:=by apply Still.loadAgg (m:=8);rfl;rfl;rfl;(exact Rd.any);rfl;rfl))|apply Qs|apply Qr|(apply Rs<;>intro hc<;>try exact No)|apply Qn|refine Ql ?_|(refine Qd ?_;clear hS;intro w1 hS)|refine Qt ?_|refine Qf ?_|apply Qk
  all_goals
   refine Qw Tryz.func123 ?_;refine⟨?_,(o2.back hS).picks (by focus((repeat(first|apply Picks.all|apply Picks.nil|(refine Picks.cons (by repeat(first|apply Take.head|apply Take.tail)) ?_)|apply Picks.drop));done))⟩;first|(rw[if_pos (show s4=zMT from hc)];rfl)|(rw[if_neg (show ¬s4=zMT from hc)];rfl)
theorem zJn {s1 s2 s3:ByteArray}(hl:zBw ρ pb off [s1,s2,s3])(k1:okN s1=true)(k2:okN s2=true)(k3:okN s3=true)(hS:St we ρ (Row bk [pI k] 3::Row bk2 [pI tl] 165::F) w) :
 Cl Tryz.prog 171 [.slice (some ⟨pb,off,none⟩) 3 cap,pP bk,pP bk2] w fun v w'=>v = .tuple #[.agg (lnL k (numG s1) 0 0 ByteArray.empty (numG s2) (numG s3) tl).toArray,.bool true]∧St we ρ (Row bk [pI k] 3::Row bk2 [pI tl] 165::F) w':=by
 obtain⟨cs,el,fr,hm,hc⟩:=hl;have kN:∀{σ:List HP} {w:World},St we ρ σ w→_:=fun hS=>zCv (l:=[s1,s2,s3]) (by simp) (by simp[k1,k2,k3]) (Rd.ro hm) hc hS (cap:=cap)
 clear k1 k2 k3 hc;generalize hn1:numG s1=n1 at kN;generalize hn2:numG s2=n2 at kN;generalize hn3:numG s3=n3 at kN;simp only[List.map_cons,List.map_nil,hn1,hn2,hn3,List.length_cons,List.length_nil,Nat.zero_add,Nat.reduceAdd]at kN ⊢;refine Run.calls3 (n:=43) Tryz.func171 rfl rfl rfl ?_;repeat' first|(refine Qc 116 (c:=kN hS) (k':=?_);clear hS;rintro v w1 ⟨sv,rfl,hS⟩;obtain⟨q0,qc0,rfl⟩:=zAG hS;replace hS:St we ρ (Vec _ 1 (.slice q0 3 qc0) 3 [pI n1,pI n2,pI n3]::_) w1:=hS;obtain⟨bl,hbl⟩:∃x,x=b:=⟨_,rfl⟩;subst hbl)|(apply RO.op;apply OP.append (size:=1) (bytes:=8) (k:=2) (news:=[pI 0,pI 0]) hS;rfl;rfl;rfl;rfl;rfl;rfl;rfl;rfl;exact(by omega);exact An;(exact Rd.any);rfl;rfl;exact(by intro v hv;simp at hv;subst hv;rfl);(exact(by unfold maxLen;omega));(exact(by omega));rfl;clear hS;intro v2 w1 hS;obtain⟨ρ2,o2,s2,hT⟩:=zAH (l:=[n1,n2,n3,0,0]) zAZ hS;clear hS;have hS:=hT;clear hT)|apply Qs|apply Qr|(apply Rs<;>intro hc<;>try exact No)|apply Qn|refine Ql ?_|(refine Qa ?_;clear hS;intro b w1 hS)|(refine Qg ?_;clear hS;intro b w1 hS)|refine Qy ?_|refine Qf ?_|apply Qk
 obtain⟨q,qc,rfl,-⟩:=s2.val;obtain⟨b0,o0,cs0,e0,f0,rfl,m0,hc0⟩:=zOO s2 (by simp);have g0:=hc0 0 (by simp);have g1:=hc0 1 (by simp);have g2:=hc0 2 (by simp);clear hc0;simp only[Nat.add_zero,List.getElem_cons_zero,List.getElem_cons_succ]at g0 g1 g2;refine Run.weaken (e':=[(1,pP bk),(2,pP bk2),(4,pP bl),(6,.slice (some ⟨b0,o0,none⟩) 5 qc)]) (by exact Sb) ?_;have hS2:St we ρ2 (Row bl (lnL 0 0 0 0 ByteArray.empty 0 0 0) 167::Row bk [pI k] 3::Row bk2 [pI tl] 165::F) _:=hS.pk;clear hS;have hS:=hS2;clear hS2;refine(Run.regionH_cut (fun _:Unit=>Row bl (lnL k n1 0 0 ByteArray.empty n2 n3 tl) 167::Row bk [pI k] 3::Row bk2 [pI tl] 165::F) (fun _=>[(4,pP bl),(5,.bool true)]) hS (.cons _ (List.Sublist.refl _)) (by rfl) (by rfl) (by rfl) ?_ ?_)
 · clear hS
   intro w1 hS;refine RH.relist (listed':=bm 16 0) (by kernel_rfl) ?_;repeat' first|(refine Yt 0 0 ?_ (h:=by first|(apply Still.load;rfl;rfl;exact Rd.ro m0;exact g0)|(apply Still.load;rfl;rfl;exact Rd.ro m0;exact g1)|(apply Still.load;rfl;rfl;exact Rd.ro m0;exact g2)|exact Still.an))|refine Yt 1 1 ?_|(refine Yt 3 2 ?_ (h:=by first|exact Sx|exact Still.any))|(refine Yt 7 3 ?_ (h:=by first|(apply Still.load;rfl;rfl;exact Rd.ro m0;exact g0)|(apply Still.load;rfl;rfl;exact Rd.ro m0;exact g1)|(apply Still.load;rfl;rfl;exact Rd.ro m0;exact g2)|exact Still.an))|refine Yt 15 4 ?_|(refine Yt 31 5 ?_ (h:=by first|exact Sx|exact Still.any))|(refine Yt 63 6 ?_ (h:=by first|(apply Still.load;rfl;rfl;exact Rd.ro m0;exact g0)|(apply Still.load;rfl;rfl;exact Rd.ro m0;exact g1)|(apply Still.load;rfl;rfl;exact Rd.ro m0;exact g2)|exact Still.an))|refine Yt 127 7 ?_|(refine Yt 255 8 ?_ (h:=by first|exact Sx|exact Still.any))|(refine Yt 511 9 ?_ (h:=by first|(apply Still.load;rfl;rfl;exact Rd.ro m0;exact g0)|(apply Still.load;rfl;rfl;exact Rd.ro m0;exact g1)|(apply Still.load;rfl;rfl;exact Rd.ro m0;exact g2)|exact Still.an))|(refine Yt 1023 10 ?_ (h:=by first|(apply Still.load;rfl;rfl;exact Rd.ro m0;exact g0)|(apply Still.load;rfl;rfl;exact Rd.ro m0;exact g1)|(apply Still.load;rfl;rfl;exact Rd.ro m0;exact g2)|exact Still.any))|(refine Yt 2047 11 ?_ (h:=by first|(apply Still.load;rfl;rfl;exact Rd.ro m0;exact g0)|(apply Still.load;rfl;rfl;exact Rd.ro m0;exact g1)|(apply Still.load;rfl;rfl;exact Rd.ro m0;exact g2)|exact Still.any))|(refine Yt 4095 12 ?_ (h:=by first|(apply Still.load;rfl;rfl;exact Rd.ro m0;exact g0)|(apply Still.load;rfl;rfl;exact Rd.ro m0;exact g1)|(apply Still.load;rfl;rfl;exact Rd.ro m0;exact g2)|exact Still.an))|(refine Yt 8191 13 ?_ (h:=by first|(apply Still.load;rfl;rfl;exact Rd.ro m0;exact g0)|(apply Still.load;rfl;rfl;exact Rd.ro m0;exact g1)|(apply Still.load;rfl;rfl;exact Rd.ro m0;exact g2)|exact Still.any))|refine Yt 32767 15 ?_|(refine Od ?_;clear hS;intro w1 hS;refine Xh ?_)|refine Jo ?_|refine Za 16383 14 ?_|(refine Yd 65535 ?_;exact⟨(),Sb,hS.pk⟩)
 clear hS;rintro - w1 hS;refine Qw Tryz.func171 ?_;exact⟨rfl,(o2.back hS).picks (by focus((repeat(first|apply Picks.all|apply Picks.nil|(refine Picks.cons (by repeat(first|apply Take.head|apply Take.tail)) ?_)|apply Picks.drop));done))⟩
end
def rdEs (b0 b1 b2 b4 c4 b5 b6 c6:Nat):List MapEntry:=[⟨.string ⟨#[100,101,118,105,99,101]⟩,.func (.func 170) #[] #[pP b0],0⟩,⟨.string ⟨#[112,101,101,114]⟩,.func (.func 170) #[] #[pP b1],1⟩,⟨.string ⟨#[112,115,107]⟩,.func (.func 170) #[] #[pP b2],2⟩,⟨.string ⟨#[111,112,101,110]⟩,.func (.func 123) #[] #[],3⟩,⟨.string ⟨#[119,114,105,116,101]⟩,.func (.func 171) #[] #[pP b4,pP c4],4⟩,⟨.string ⟨#[115,101,110,100]⟩,.func (.func 170) #[] #[pP b5],5⟩,⟨.string ⟨#[114,101,97,100]⟩,.func (.func 171) #[] #[pP b6,pP c6],6⟩,⟨.string ⟨#[98,101,116,114,97,121]⟩,.func (.func 125) #[] #[],7⟩,⟨.string ⟨#[114,101,107,101,121]⟩,.func (.func 126) #[] #[],8⟩,⟨.string ⟨#[102,111,114,103,101]⟩,.func (.func 127) #[] #[],9⟩]
theorem zIK (b0 b1 b2 b4 c4 b5 b6 c6:Nat):∀e∈rdEs b0 b1 b2 b4 c4 b5 b6 c6,e.key = .string (strK e.key):=by simp[rdEs,strK]
def zLA:List MapEntry:=[⟨.string ⟨#[99,97,110]⟩,.func (.func 117) #[] #[],0⟩,⟨.string ⟨#[115,116,97,116,101]⟩,.func (.func 118) #[] #[],1⟩]
theorem zDa:∀e∈zLA,e.key = .string (strK e.key):=by simp[zLA,strK]
section
variable {we w:World}{ρ:List (Nat × Obj)}{σ F:List HP}{v:Value}{k tl:Int}
theorem zJD (hS:St we ρ σ w):Cl Tryz.prog 122 [pI k] w fun v w'=>∃b,v = .func (.func 170) #[] #[pP b]∧St we ρ (Row b [pI k] 3 :: σ) w':=by
 refine Run.calls1 (n:=4) Tryz.func122 rfl rfl rfl ?_;repeat' first|(refine Ql ?_ (h:=by apply Still.makeFunc;rfl;rfl))|apply Qs|apply Qr|apply Qn|refine Ql ?_|(refine Qx ?_;clear hS;intro b w1 hS)
 refine Qw Tryz.func122 ?_;exact⟨_,rfl,hS⟩
theorem zKf (hS:St we ρ σ w):Cl Tryz.prog 124 [pI k,pI tl] w fun v w'=>∃b c,v = .func (.func 171) #[] #[pP b,pP c]∧St we ρ (Row c [pI tl] 165::Row b [pI k] 3 :: σ) w':=by
 refine Run.calls2 (n:=6) Tryz.func124 rfl rfl rfl ?_;repeat' first|(refine Ql ?_ (h:=by apply Still.makeFunc;rfl;rfl))|apply Qs|apply Qr|apply Qn|refine Ql ?_|(refine Qx ?_;clear hS;intro b w1 hS)
 refine Qw Tryz.func124 ?_;exact⟨_,_,rfl,hS⟩
theorem zFJ (hS:St we ρ σ w):Cl Tryz.prog 71 [] w fun v w'=>∃m c,v = .map (some m)∧St we ρ (Blk m (.map zLA.toArray c) :: σ) w':=by
 refine Run.calls0 (n:=3) Tryz.func71 rfl rfl ?_;repeat' first|(apply RO.op;apply OP.insert hS;rfl;rfl;rfl;rfl;exact An;exact KeyIs.string (f:=strK) rfl (by simp[strK]);exact(by simp[strK]);rfl;clear hS;intro w1 hS)|apply Qs|apply Qr|apply Qn|refine Ql ?_|(refine Qp ?_;clear hS;intro b w1 hS)
 refine Qw Tryz.func71 ?_;exact⟨_,_,rfl,hS⟩
theorem zGD (hS:St we ρ σ w):Cl Tryz.prog 73 [] w fun v w'=>∃m c b0 b1 b2 b4 c4 b5 b6 c6,v = .map (some m)∧St we ρ (Blk m (.map (rdEs b0 b1 b2 b4 c4 b5 b6 c6).toArray c)::Row c6 [pI 2] 165::Row b6 [pI 6] 3::Row b5 [pI 5] 3::Row c4 [pI 1] 165::Row b4 [pI 4] 3::Row b2 [pI 2] 3::Row b1 [pI 1] 3::Row b0 [pI 0] 3 :: σ) w':=by
 refine Run.calls0 (n:=9) Tryz.func73 rfl rfl ?_;repeat' first|(apply RO.op;apply OP.insert hS;rfl;rfl;rfl;rfl;exact An;exact KeyIs.string (f:=strK) rfl (by simp[strK]);exact(by simp[strK]);rfl;clear hS;intro w1 hS)|(refine Qc 122 (c:=zJD hS) (k':=?_);clear hS;rintro v w1 ⟨bp,rfl,hS⟩)|(refine Qc 124 (c:=zKf hS) (k':=?_);clear hS;rintro v w1 ⟨bp,cp,rfl,hS⟩)|apply Qs|apply Qr|apply Qn|refine Ql ?_|(refine Qp ?_;clear hS;intro b w1 hS)
 refine Qw Tryz.func73 ?_;exact⟨_,_,_,_,_,_,_,_,_,_,rfl,hS.pk⟩
end
structure RdH where
 b0:Nat
 b1:Nat
 b2:Nat
 b4:Nat
 c4:Nat
 b5:Nat
 b6:Nat
 c6:Nat
def zLB (we:World)(ρ:List (Nat × Obj))(key:ByteArray)(pb off n cap:Nat)(ln:List Value)(g:Nat)(caps:RdH→List Value):Prop :=
 ∀x:RdH,(∃i,zBN (fun u=>decide (key=strK u)) (rdEs x.b0 x.b1 x.b2 x.b4 x.c4 x.b5 x.b6 x.c6) 0=some (i,.func (.func g) #[] (List.toArray (caps x)))) ∧
  ∀{F w},St we ρ (Row x.c6 [pI 2] 165::Row x.b6 [pI 6] 3::Row x.b5 [pI 5] 3::Row x.c4 [pI 1] 165::Row x.b4 [pI 4] 3::Row x.b2 [pI 2] 3::Row x.b1 [pI 1] 3::Row x.b0 [pI 0] 3::F) w→Cl Tryz.prog g ([]++[.slice (some ⟨pb,off,none⟩) n cap]++caps x) w fun v w'=>v = .tuple #[.agg ln.toArray,.bool true]∧St we ρ (Row x.c6 [pI 2] 165::Row x.b6 [pI 6] 3::Row x.b5 [pI 5] 3::Row x.c4 [pI 1] 165::Row x.b4 [pI 4] 3::Row x.b2 [pI 2] 3::Row x.b1 [pI 1] 3::Row x.b0 [pI 0] 3::F) w'
section
variable {we w:World}{ρ:List (Nat × Obj)}{σ F:List HP}{v:Value}{pb off cap:Nat}{s1 s2 s3 s4 nm:ByteArray}
theorem zHK (hl:zBw ρ pb off [s1,s2])(h1:okN s1=true)(h2:okN s2=true):zLB we ρ ⟨#[100,101,118,105,99,101]⟩ pb off 2 cap (lnL 0 (numG s1) (numG s2) 0 ByteArray.empty 0 0 0) 170 (fun x=>[pP x.b0]):=by
 intro x;refine⟨⟨0,by rfl⟩,fun hS=>?_⟩;exact(zFe hl h1 h2 hS.tk).at An
theorem zPU (hl:zBw ρ pb off [s1,s2])(h1:okN s1=true)(h2:okN s2=true):zLB we ρ ⟨#[112,101,101,114]⟩ pb off 2 cap (lnL 1 (numG s1) (numG s2) 0 ByteArray.empty 0 0 0) 170 (fun x=>[pP x.b1]):=by
 intro x;refine⟨⟨1,by rfl⟩,fun hS=>?_⟩;exact(zFe hl h1 h2 hS.tk).at An
theorem zJe (hl:zBw ρ pb off [s1,s2])(h1:okN s1=true)(h2:okN s2=true):zLB we ρ ⟨#[115,101,110,100]⟩ pb off 2 cap (lnL 5 (numG s1) (numG s2) 0 ByteArray.empty 0 0 0) 170 (fun x=>[pP x.b5]):=by
 intro x;refine⟨⟨5,by rfl⟩,fun hS=>?_⟩;exact(zFe hl h1 h2 hS.tk).at An
theorem zIJ (hl:zBw ρ pb off [s1,s2,s3])(h1:okN s1=true)(h2:okN s2=true)(h3:okN s3=true):zLB we ρ ⟨#[119,114,105,116,101]⟩ pb off 3 cap (lnL 4 (numG s1) 0 0 ByteArray.empty (numG s2) (numG s3) 1) 171 (fun x=>[pP x.b4,pP x.c4]):=by
 intro x;refine⟨⟨4,by rfl⟩,fun hS=>?_⟩;exact(zJn hl h1 h2 h3 hS.tk2).at2 An An
theorem zJf (hl:zBw ρ pb off [s1,s2,s3])(h1:okN s1=true)(h2:okN s2=true)(h3:okN s3=true):zLB we ρ ⟨#[114,101,97,100]⟩ pb off 3 cap (lnL 6 (numG s1) 0 0 ByteArray.empty (numG s2) (numG s3) 2) 171 (fun x=>[pP x.b6,pP x.c6]):=by
 intro x;refine⟨⟨6,by rfl⟩,fun hS=>?_⟩;exact(zJn hl h1 h2 h3 hS.tk2).at2 An An
theorem zJg (hl:zBw ρ pb off [s1,nm,s3,s4])(h1:okN s1=true)(h3:okN s3=true)(h4:okN (zIM s4)=true):zLB we ρ ⟨#[111,112,101,110]⟩ pb off 4 cap (lnL 3 (numG s1) (numG s3) (if s4=zMT then -1 else numG s4) nm 0 0 1) 123 (fun x=>[]):=by
 intro x;refine⟨⟨3,by rfl⟩,fun hS=>?_⟩;exact zJE hl h1 h3 h4 hS
theorem zVS {key:ByteArray}{n g:Nat}{ln:List Value}{caps:RdH→List Value}{cs:List Value}{el:TypeId}{fr:Nat × Nat}(hm:(pb,Obj.cells (List.toArray cs) el fr) ∈ ρ)(h0:cs[off]? = some (.string key))
 (hask:zBN (fun u=>decide (key=strK u)) zLA 0=none) (hg:fnB Tryz.prog g=true) (hR:zLB we ρ key pb (off+1) n (cap - 1) ln g caps) (hn:0<n∧n<cap) (hS:St we ρ F w) :
 Cl Tryz.prog 70 [.slice (some ⟨pb,off,none⟩) (n+1) cap] w fun v w'=>v = .bool true∧St we ρ F w':=by
 refine Run.calls1 (n:=51) Tryz.func70 rfl rfl rfl ?_;repeat' first|apply Qs|apply Qr|(apply Rs<;>intro hc<;>try exact No)|apply Qn|refine Ql ?_|refine Qf ?_|apply Qk
 refine(Run.regionH_cut (fun _:Unit=>F) (fun _=>[(0,.slice (some ⟨pb,off,none⟩) (n+1) cap),(4,.bool false)]) hS (List.Sublist.refl _) (by rfl) (by rfl) (by rfl) ?_ ?_)
 · clear hS
   intro w1 hS;refine RH.relist (listed':=bm 10 0) (by kernel_rfl) ?_;repeat' first|refine Yt 0 1 ?_|(refine Yt 2 2 ?_ (h:=by first|exact Sx|exact Still.any))|(refine Yt 6 3 ?_ (h:=by first|(apply Still.load;rfl;rfl;exact Rd.ro hm;exact h0)|(apply Still.lookupOk;rfl;rfl;rfl;rfl;(exact Rd.any);exact KeyIs.string (f:=strK) rfl zDa;exact hask;rfl)|exact Still.an))|refine Yt 31 5 ?_|refine Yt 63 6 ?_|refine Yt 127 7 ?_|refine Yt 255 8 ?_|refine Yt 511 9 ?_|(refine Oc 71 (c:=zFJ hS) (k':=?_);clear hS;rintro v w1 ⟨ma,ca,rfl,hS⟩;refine Xh ?_)|(refine Ol (Xh ?_) (h:=by first|(apply Still.load;rfl;rfl;exact Rd.ro hm;exact h0)|(apply Still.lookupOk;rfl;rfl;rfl;rfl;(exact Rd.any);exact KeyIs.string (f:=strK) rfl zDa;exact hask;rfl)|exact Still.any))|refine Jo ?_|refine Za 14 0 ?_|refine Za 15 4 ?_|(refine Yd 1023 ?_;exact⟨(),Sb,hS.pk⟩)
 clear hS;rintro - w1 hS;repeat' first|apply Qs|apply Qr|apply Qn|refine Ql ?_|refine Qf ?_|apply Qk
 refine(Run.regionH_cut (fun x:RdH=>Row x.c6 [pI 2] 165::Row x.b6 [pI 6] 3::Row x.b5 [pI 5] 3::Row x.c4 [pI 1] 165::Row x.b4 [pI 4] 3::Row x.b2 [pI 2] 3::Row x.b1 [pI 1] 3::Row x.b0 [pI 0] 3::F) (fun x=>[(0,.slice (some ⟨pb,off,none⟩) (n+1) cap),(7,.func (.func g) #[] (List.toArray (caps x))),(8,.bool true)]) hS (List.Sublist.refl _) (by rfl) (by rfl) (by rfl) ?_ ?_)
 · clear hS
   intro w1 hS;refine RH.relist (listed':=bm 10 0) (by kernel_rfl) ?_;repeat' first|refine Yt 0 1 ?_|(refine Yt 2 2 ?_ (h:=by first|exact Sx|exact Still.any))|(refine Yt 6 3 ?_ (h:=by first|(apply Still.load;rfl;rfl;exact Rd.ro hm;exact h0)|(apply Still.lookupOk;rfl;rfl;rfl;rfl;(exact Rd.any);exact KeyIs.string (f:=strK) rfl (zIK _ _ _ _ _ _ _ _);exact hf;rfl)|exact Still.an))|refine Yt 31 5 ?_|refine Yt 63 6 ?_|refine Yt 127 7 ?_|refine Yt 255 8 ?_|refine Yt 511 9 ?_|(refine Oc 73 (c:=zGD hS) (k':=?_);clear hS;rintro v w1 ⟨ma,ca,b0,b1,b2,b4,c4,b5,b6,c6,rfl,hS⟩;obtain⟨⟨iq,hf⟩,hgo⟩:=hR ⟨b0,b1,b2,b4,c4,b5,b6,c6⟩;dsimp only at hf;refine Xh ?_)|(refine Ol (Xh ?_) (h:=by first|(apply Still.load;rfl;rfl;exact Rd.ro hm;exact h0)|(apply Still.lookupOk;rfl;rfl;rfl;rfl;(exact Rd.any);exact KeyIs.string (f:=strK) rfl (zIK _ _ _ _ _ _ _ _);exact hf;rfl)|exact Still.any))|refine Jo ?_|refine Za 14 0 ?_|refine Za 15 4 ?_|(refine Yd 1023 ?_;exact⟨⟨b0,b1,b2,b4,c4,b5,b6,c6⟩,(by exact Sb),hS.pk⟩)
 clear hS;rintro x w1 hS;obtain⟨-,hgo⟩:=hR x;repeat' first|(refine Ql ?_ (h:=by apply Still.sliceLo;rfl;rfl;rfl;rfl;omega;omega;omega;rfl;rfl;rfl))|(apply RO.op;apply OP.callV;rfl;exact hg;rfl;rfl;exact hgo hS;clear hS;rintro v w1 ⟨rfl,hS⟩)|apply Qs|apply Qr|apply Qn|refine Ql ?_|refine Qf ?_|apply Qk
 refine Qw Tryz.func70 ?_;exact Xp
theorem zTg {key s1:ByteArray}{i g:Nat}{cs:List Value}{el:TypeId}{fr:Nat × Nat}(hm:(pb,Obj.cells (List.toArray cs) el fr) ∈ ρ)(h0:cs[off]? = some (.string key))(h1:cs[off+1]? = some (.string s1))(hok:okN s1=true)
 (hask:zBN (fun u=>decide (key=strK u)) zLA 0=some (i,.func (.func g) #[] #[])) (hn:1<cap) (hS:St we ρ F w) :
 Cl Tryz.prog 70 [.slice (some ⟨pb,off,none⟩) 2 cap] w fun v w'=>v = .bool true∧St we ρ F w':=by
 have kN:∀{σ:List HP} {w:World},St we ρ σ w→_:=fun hS=>zCv (l:=[s1]) (pb:=pb) (off:=off+1) (cap:=cap - 1) (by simp) (by simp[hok]) (Rd.ro hm) (by
  intro i hi;match i,hi with
  | 0,_=>exact h1) hS
 refine Run.calls1 (n:=51) Tryz.func70 rfl rfl rfl ?_;repeat' first|apply Qs|apply Qr|(apply Rs<;>intro hc<;>try exact No)|apply Qn|refine Ql ?_|refine Qf ?_|apply Qk
 refine(Run.regionH_cut (fun _:Unit=>F) (fun _=>[(0,.slice (some ⟨pb,off,none⟩) 2 cap),(4,.bool true)]) hS (List.Sublist.refl _) (by rfl) (by rfl) (by rfl) ?_ ?_)
 · clear hS
   intro w1 hS;refine RH.relist (listed':=bm 10 0) (by kernel_rfl) ?_;repeat' first|refine Yt 0 1 ?_|(refine Yt 2 2 ?_ (h:=by first|exact Sx|exact Still.any))|(refine Yt 6 3 ?_ (h:=by first|(apply Still.load;rfl;rfl;exact Rd.ro hm;exact h0)|(apply Still.lookupOk;rfl;rfl;rfl;rfl;(exact Rd.any);exact KeyIs.string (f:=strK) rfl zDa;exact hask;rfl)|exact Still.an))|refine Yt 31 5 ?_|refine Yt 63 6 ?_|refine Yt 127 7 ?_|refine Yt 255 8 ?_|refine Yt 511 9 ?_|(refine Oc 71 (c:=zFJ hS) (k':=?_);clear hS;rintro v w1 ⟨ma,ca,rfl,hS⟩;refine Xh ?_)|(refine Ol (Xh ?_) (h:=by first|(apply Still.load;rfl;rfl;exact Rd.ro hm;exact h0)|(apply Still.lookupOk;rfl;rfl;rfl;rfl;(exact Rd.any);exact KeyIs.string (f:=strK) rfl zDa;exact hask;rfl)|exact Still.any))|refine Jo ?_|refine Za 14 0 ?_|refine Za 15 4 ?_|(refine Yd 1023 ?_;exact⟨(),Sb,hS.pk⟩)
 clear hS;rintro - w1 hS;repeat' first|(refine Ql ?_ (h:=by apply Still.sliceLo;rfl;rfl;rfl;rfl;omega;omega;omega;rfl;rfl;rfl))|(refine Qc 116 (c:=kN hS) (k':=?_);clear hS;rintro v w1 ⟨sv,rfl,hS⟩)|apply Qs|apply Qr|(apply Rs<;>intro hc<;>try exact No)|apply Qn|refine Ql ?_|refine Qy ?_|refine Qt ?_
 all_goals
  refine Qw Tryz.func70 ?_;exact Xp
end
section
variable {P:Program}{n:Nat}{e:Env}{ty:TypeId}{x y:Operand}{v:Value}
variable {we w:World}{ρ:List (Nat × Obj)}{σ σ' F:List HP}{d:Nat}{pos:String}{aft:Array Edge}{gd:Option (Nat × Bool)}{K:Env→World→Prop}
variable {el:TypeId}{m:Nat}{xs:List Value}
theorem zRT {w:World}{B size n:Nat}{v:Value}{xs:List Value}(h:w.ownsRow B el size v n xs):w.ownsRow 0 el size v n xs:=by
 refine⟨h.1,?_⟩;rcases h.2 with h1|⟨g,cap,cur,h1,h2,h3⟩
 · exact .inl h1
 · exact .inr ⟨g,cap,cur,h1,Nat.zero_le _,h3⟩
theorem OP.appendS {t1 t2:TypeId}{i:TypeInfo}{s:ByteArray}(hS:St we ρ σ w)(hx:ev e x=some v)(hy:ev e y=some (.string s))(ht:zEv P t1=some el)(hu:P.underlying t2=some .string)(hi:P.info? el=some i)(hz:i.zero=some (.int .u8 0))
 (hsize:i.size=1) (hby:i.bytes=1) (hT:Take (Vec el 1 v m xs) σ F) (h63:m+s.size≤1000000) (hd:Nat.blt d n=true)
 (hk:∀v' w1,St we ρ (Vec el 1 v' (m+s.size) (xs++Lib.strCells s)::F) w1→K ((d,v')::e) w1) :
 OP P n ⟨some d,.call { callee:=.builtin .append,args := #[x,y],argTypes := #[t1,t2] },ty,pos,aft,gd⟩ e w K:=by
 have hS1:=hS.take hT;have hown:w.ownsRow 0 el 1 v m xs:=by
  obtain⟨X,⟨X1,X2,rfl,ha,hf⟩,_⟩:=hS1.own;unfold Vec at ha;exact ha.1
 have h64:m+s.size≤maxLen:=by unfold maxLen;omega
 obtain⟨v',w',e1,e2,e3,e5⟩:∃v' w',(Builtin.append_ #[t1,t2] ty #[v,.string s]).run P w = .ok v' w'∧w'.ownsRow 0 el 1 v' (m+s.size) (xs++Lib.strCells s)∧w.grownBy w' v.ownBlock∧∀b∈v'.ownBlock.toList,b∈v.ownBlock.toList∨w.heap.size≤b:=by
  rcases hown.2 with ⟨rfl,rfl⟩|⟨g,cap,cur,rfl,hbg,hg,hnc,hcm,hcs,htake⟩
  · obtain⟨v',w',e1,e2,e3,-⟩:=Lib.run_append_own_string (P:=P) w w.heap.size t1 t2 ty el i (zBi ht) hu hi hz hsize hby (.slice none 0 0) 0 xs ⟨hown.1,.inl ⟨rfl,rfl⟩⟩ s h64 (by omega) (Nat.le_refl _)
    exact⟨v',w',e1,zRT e2,e3,fun b hb=>.inr (e2.lt b (by simpa using hb)).1⟩
  · obtain⟨v',w',e1,e2,e3,-⟩:=Lib.run_append_own_string (P:=P) w 0 t1 t2 ty el i (zBi ht) hu hi hz hsize hby (.slice (some ⟨g,0,none⟩) m cap) m xs hown s h64 (by omega) (Nat.zero_le _)
    refine⟨v',w',e1,e2,e3,?_⟩;have hcs':cur.size=cap:=by simpa using hcs
    by_cases hroom:m+s.size≤cap
    · have hr:=Lib.run_append_room_string (P:=P) w t1 t2 ty el i (zBi ht) hu hi hsize g m cap cur hg s hroom (by omega)
      rw[hr]at e1;injection e1 with e1 _;subst e1;exact fun b hb=>.inl hb
    · have holds:∀j u,xs[j]? = some u→w.cell? ((⟨g,0,none⟩:Addr).add j)=some u:=hown.cells (g:=g) rfl
      have hr:=Lib.run_append_grow_string (P:=P) w t1 t2 ty el i (.int .u8 0) (zBi ht) hu hi hz ⟨g,0,none⟩ m cap xs (by rw[hsize];simpa using hown.1) holds s (by omega) (by omega) (by rw[hby];exact growslice_fits (by omega) (by omega));rw[hr]at e1;injection e1 with e1 _;subst e1;intro b hb;simp[Value.ownBlock]at hb;exact .inr (by omega)
 refine OP.put (v:=v') (w':=w') (fun a ha=>?_) hd (hk v' w' ?_)
 · simp only[execOp,resolve,invoke,Deferred.ofValue,Sem.run_bind,Sem.run_pure,Result.andThen_ok,ha.ev hx,ha.ev hy]
   simp[builtin,ha.ev hx,ha.ev hy,e1]
 · refine hS1.turn e3.os e3.tape e3.output e3.size (fun X hX hnd=>⟨v'.ownBlock.toList,(by unfold Vec;exact⟨e2,rfl⟩),?_,?_,?_,?_⟩)
   · cases v'.ownBlock<;>simp
   · intro b hb
     unfold Vec at hX;rw[hX.2];exact e5 b hb
   · intro b hb
     exact(e2.lt b (by simpa using hb)).2
   · intro b hb hX'
     refine e3.block b hb (fun h=>hX' ?_);unfold Vec at hX;rw[hX.2,← h];simp
end
section
variable {P:Program}{n:Nat}{e:Env}{ty t:TypeId}{x y z:Operand}{S:World→Prop}
theorem Still.sliceStr2 {s:ByteArray}{q q2:IntKind}{i j:Int}(hx:ev e x=some (.string s))(hy:ev e y=some (.int q i))(hz:ev e z=some (.int q2 j))(ht:P.underlying t=some .string)(h0:0≤i)(h1:i≤j)(h2:j≤s.size) :
 Still P n e S (.slice t x (some y) (some z) none) ty (.string (s.extract i.toNat j.toNat)):=Still.mk fun a w ha _ d pos aft g=>by
 simp only[execOp,ha.ev hx,Option.map_some,Option.map_none,ha.ev hy,ha.ev hz,Instr.sliceAt,Instr.slice,Sem.run_bind,run_underlying ht,Result.andThen_ok,Instr.sliceBounds,Instr.sliceBound,asIntOf,Sem.run_pure];simp[h0,h1,h2,show 0≤j by omega];intro h;omega
theorem Still.sliceData {ts:Array TypeId}{a:Addr}{l c:Nat}(hx:ev e x=some (.slice (some a) l c))(hc:c≠0) :
 Still P n e S (.call { callee:=.builtin .unsafeSliceData,args := #[x],argTypes:=ts }) ty (.pointer (some a)):=Still.mk fun q w ha _ d pos aft g=>by
 simp[execOp,resolve,invoke,builtin,ha.ev hx,Lib.run_unsafeSliceData_row (P:=P) w ts ty a l c hc]
end
section
variable {P:Program}{n:Nat}{e:Env}{ty pt it el:TypeId}{x y:Operand}
variable {we w:World}{ρ:List (Nat × Obj)}{σ F:List HP}{d:Nat}{pos:String}{aft:Array Edge}{gd:Option (Nat × Bool)}{K:Env→World→Prop}
theorem OP.unsafeString {l:List UInt8}{spare:List Value}{g:Nat}(hS:St we ρ σ w)(hx:ev e x=some (pP g))(hy:ev e y=some (pI l.length))(hp:P.underlying pt=some (.pointer el))(hc:P.cellsOf el=1)
 (hT:Take (Row g (Lib.byteCells l++spare) el) σ F) (h0:l≠[]) (h63:l.length≤1000000) (hd:Nat.blt d n=true) (hk:∀w1,St we ρ F w1→K ((d,.string ⟨l.toArray⟩)::e) w1) :
 OP P n ⟨some d,.call { callee:=.builtin .unsafeString,args := #[x,y],argTypes := #[pt,it] },ty,pos,aft,gd⟩ e w K:=by
 have hS1:=hS.take hT;have hg:=hS1.rd (.own .head);have hr:=Lib.run_unsafeString_row (P:=P) w pt it ty el hp hc g (Lib.byteCells l++spare).length (by simp[World.shape?,hg]) l h0 (by rw[List.length_append,Lib.byteCells_length];omega) (by omega) (fun j u hj=>by
  rw[Addr.add_lit];refine zCq hg ?_;rw[Nat.zero_add,List.getElem?_append_left (by rw[Lib.byteCells_length];exact(List.getElem?_eq_some_iff.1 hj).1)];simp[Lib.byteCells,hj])
 have hl:l.length≠0:=by simpa using h0
 refine OP.put (v:=.string ⟨l.toArray⟩) (w':=w.freeze ⟨g,0,none⟩ l.length) (fun a ha=>?_) hd (hk _ ?_)
 · simp only[execOp,resolve,invoke,Deferred.ofValue,Sem.run_bind,Sem.run_pure,Result.andThen_ok,ha.ev hx,ha.ev hy]
   simp[builtin,ha.ev hx,ha.ev hy,hr]
 · have h2:St we ρ (Blk g (.cells (Lib.byteCells l++spare).toArray el (0,l.length))::F) (w.freeze ⟨g,0,none⟩ l.length):=by
    refine hS1.write .head ?_ ?_ ?_ ?_ ?_ fun k hk=>?_
    all_goals unfold World.freeze
    all_goals rw[if_neg hl]
    · simp
    · simp only[Array.getElem?_modify,if_true,hg]
      simp
    · simp only[Array.getElem?_modify]
      rw[if_neg (fun h=>hk h.symm)]
   exact h2.tail
end
section
variable {we w:World}{ρ:List (Nat × Obj)}{σ F:List HP}{v:Value}{b:Nat}
theorem zIw (hS:St we ρ (Row b [.pointer none,v] 231::F) w):Cl Tryz.prog 174 [pP b] w fun u w'=>u = .tuple #[]∧St we ρ (Row b [pP b,v] 231::F) w':=by
 have hb:=hS.rd (.own .head);refine⟨(Any.Builder_copyCheck_fresh (ρ:=zEJ) { zKu with } { zHo with } b w (by simp[World.cell?,hb]) (by simp[World.shape?,hb];rfl) (by simp[World.frozen?,hb])).mono fun en w' ⟨h,hw⟩=>?_⟩;subst h hw;refine⟨rfl,hS.write .head rfl rfl rfl (by simp) ?_ fun k hk=>heap_setCell_other w _ k _ hk⟩;exact heap_setCell_same w b 0 _ _ _ hb
theorem zJM (hS:St we ρ (Row b [pP b,v] 231::F) w):Cl Tryz.prog 174 [pP b] w fun u w'=>u = .tuple #[]∧St we ρ (Row b [pP b,v] 231::F) w':=by
 have hb:=hS.rd (.own .head);refine⟨(Any.Builder_copyCheck_used (ρ:=zEJ) { zKu with } { zHo with } b w (by simp[World.cell?,hb])).mono fun en w' ⟨h,hw⟩=>?_⟩;subst h hw;exact⟨rfl,hS⟩
theorem zIx {ad:Value}(had:ad = .pointer none∨ad = pP b)(hS:St we ρ (Row b [ad,v] 231::F) w):Cl Tryz.prog 174 [pP b] w fun u w'=>u = .tuple #[]∧St we ρ (Row b [pP b,v] 231::F) w':=by
 rcases had with rfl|rfl
 · exact zIw hS
 · exact zJM hS
theorem zFL {ad:Value}{s:ByteArray}{m:Nat}{xs:List Value}(had:ad = .pointer none∨ad = pP b)(h63:m+s.size≤1000000)(hS:St we ρ (Row b [ad,v] 231::Vec 5 1 v m xs::F) w) :
 Cl Tryz.prog 130 [pP b,.string s] w fun u w'=>∃v',u = .tuple #[pI s.size,.nilIface]∧St we ρ (Row b [pP b,v'] 231::Vec 5 1 v' (m+s.size) (xs++Lib.strCells s)::F) w':=by
 have kC:∀{F w},St we ρ (Row b [ad,v] 231::F) w→_:=fun hS=>zIx had hS
 clear had;refine Run.calls2 (n:=19) Tryz.func130 rfl rfl rfl ?_;repeat' first|(refine Qv 174 (kC hS.tk) ?_;clear hS;intro w1 hS)|(apply RO.op;apply OP.appendS hS;rfl;rfl;rfl;rfl;rfl;rfl;rfl;rfl;exact An;exact h63;rfl;clear hS;intro v2 w1 hS;obtain⟨pk2,capk2,rfl⟩:=zAG hS)|apply Qs|apply Qr|apply Qn|refine Ql ?_|(refine Qd ?_;clear hS;intro w1 hS)
 refine Qw Tryz.func130 ?_;exact⟨_,rfl,hS.pk⟩
theorem zFw {l:List UInt8}(h0:l≠[])(h63:l.length≤1000000)(hS:St we ρ (Row b [pP b,v] 231::Vec 5 1 v l.length (Lib.byteCells l)::F) w) :
 Cl Tryz.prog 133 [pP b] w fun u w'=>u = .string ⟨l.toArray⟩∧St we ρ F w':=by
 have hc1:Tryz.prog.cellsOf 5=1:=by kernel_rfl
 have hl0:l.length≠0:=by simpa using h0
 have hS2:St we ρ (Vec 5 1 v l.length (Lib.byteCells l)::Row b [pP b,v] 231::F) w:=hS.pk;clear hS;obtain⟨hxl,⟨rfl,hz,-⟩|⟨g,cap,spare,rfl,q1,q2,q3,hS⟩⟩:=zBP hS2
 · exact absurd hz hl0
 have hcap:cap≠0:=by omega
 clear hS2;refine Run.calls1 (n:=14) Tryz.func133 rfl rfl rfl ?_;repeat' first|apply Qs|apply Qr|apply Qn|refine Ql ?_
 refine(Run.regionH_cut (fun _:Unit=>Row b [pP b,.slice (some ⟨g,0,none⟩) l.length cap] 231::F) (fun _=>[(2,.string ⟨l.toArray⟩)]) hS (.cons _ (List.Sublist.refl _)) (by rfl) (by rfl) (by rfl) ?_ ?_)
 · clear hS
   intro w1 hS;refine RH.relist (listed':=bm 12 0) (by kernel_rfl) ?_;repeat' first|refine Yt 0 0 ?_|refine Yt 1 1 ?_|refine Yl 3 2 ?_|(refine Yt 7 3 ?_ (h:=by first|(apply Still.sliceData;rfl;exact hcap)|exact Still.an))|refine Yt 15 5 ?_|refine Yt 47 6 ?_|refine Yl 111 7 ?_|(refine Yt 239 8 ?_ (h:=by first|(apply Still.sliceData;rfl;exact hcap)|exact Still.an))|(refine Yt 495 9 ?_ (h:=by first|(apply Still.sliceData;rfl;exact hcap)|exact Still.any))|refine Yt 2047 11 ?_|(refine Ol ?_ (h:=by apply Still.sliceData;rfl;exact hcap);refine Xh ?_)|(apply OP.unsafeString hS;rfl;rfl;rfl;exact hc1;exact An;exact h0;exact h63;rfl;clear hS;intro w1 hS;refine Xh ?_)|refine Jo ?_|refine Za 1007 4 ?_|refine Za 1023 10 ?_|(refine Yd 4095 ?_;exact⟨(),Sb,hS.pk⟩)
 clear hS;rintro - w1 hS;refine Qw Tryz.func133 ?_;exact Xp
def zUA:ByteArray:=⟨#[48,49,50,51,52,53,54,55,56,57,97,98,99,100,101,102,103,104,105,106,107,108,109,110,111,112,113,114,115,116,117,118,119,120,121,122]⟩
def digB (N:Nat):ByteArray:=zUA.extract N (N+1)
theorem zHg {N:Nat}(hN:N<10)(hS:St we ρ σ w):Cl Tryz.prog 131 [.int .u64 N,pI 10] w fun u w'=>u = .string (digB N)∧St we ρ σ w':=by
 have hs:zUA.size=36:=by rfl
 have small:∀{σ:List HP} {w:World},St we ρ σ w→Cl Tryz.prog 224 [pI N] w fun u w'=>u = .string (digB N)∧St we ρ σ w':=by
  intro σ w hS;refine Run.calls1 (n:=15) Tryz.func224 rfl rfl rfl ?_;have hw:IntKind.i64.wrap ((N:Int)+1)=((N+1:Nat):Int):=by rw[zA8 (by omega) (by omega)];simp
  repeat' first|(refine Ql ?_ (h:=by apply Still.sliceStr2 (s:=zUA) (i:=(N:Int)) (j:=((N+1:Nat):Int));rfl;rfl;(first|rfl|(rw[← hw];rfl));rfl;omega;omega;(rw[hs];omega)))|apply Qs|apply Qr|(apply Rs<;>intro hc<;>try exact No)|apply Qn|refine Ql ?_|refine Qt ?_
  refine Qw Tryz.func224 ?_;refine⟨?_,hS⟩;show Value.string (zUA.extract ((N:Int).toNat) (((N+1:Nat):Int).toNat))=_;rw[Int.toNat_natCast,Int.toNat_natCast];rfl
 have inner:∀{σ:List HP} {w:World},St we ρ σ w→Cl Tryz.prog 175 [.int .u64 N,pI 10] w fun u w'=>u = .string (digB N)∧St we ρ σ w':=by
  intro σ w hS;refine Run.calls2 (n:=32) Tryz.func175 rfl rfl rfl ?_;have hcv:IntKind.i64.wrap (N:Int)=N:=zA8 (by omega) (by omega);repeat' first|(refine Ql ?_ (h:=by apply Still.conv;rfl;rfl;rfl;exact hcv))|(refine Qv 224 (small hS) ?_;clear hS;intro w1 hS)|apply Qs|apply Qr|(apply Rs<;>intro hc<;>try exact No)|apply Qn|refine Ql ?_|refine Qt ?_
  refine Qw Tryz.func175 ?_;exact⟨rfl,hS⟩
 refine Run.calls2 (n:=8) Tryz.func131 rfl rfl rfl ?_;repeat' first|(refine Qv 175 (inner hS) ?_;clear hS;intro w1 hS)|apply Qs|apply Qr|apply Qn|refine Ql ?_
 refine Qw Tryz.func131 ?_;exact⟨rfl,hS⟩
end
end Go.Proofs.YtcikdogkkgefcaaGreatDoor
