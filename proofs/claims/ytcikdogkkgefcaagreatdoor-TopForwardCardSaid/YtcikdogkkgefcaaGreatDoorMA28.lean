/- A pattern, read out of its text: token.Parse. A right pattern's text is read back to what it was. A text of tokens' names, read: base.tokens; strings.Fields of a plain text. -/
import Derived.Shelf.Strings.Fields
import Derived.Shelf.GgClosureLib.Lays
import Derived.Test.YtcikdogkkgefcaaGreatDoorMA27
namespace Go.Proofs.YtcikdogkkgefcaaGreatDoor
set_option maxRecDepth 8000
set_option maxHeartbeats 16000000
set_option linter.unusedVariables false
set_option linter.unusedSimpArgs false
open Go Go.RowKit
def zCg:ByteArray:=⟨#[46,46,46]⟩
def nlB:ByteArray:=⟨#[10]⟩
def zCF (st:Bool × Pat)(w:ByteArray):Bool × Pat :=
 if w=zCg then(true,st.2)
 else if zGC w=false then st
 else if st.1=true then(st.1,{ st.2 with msgs:=st.2.msgs++[⟨zCM w,zEF w⟩] })
 else if zCM w=0 then(st.1,{ st.2 with pre0:=zEF w }) else(st.1,{ st.2 with pre1:=zEF w })
def zOW (l:List ByteArray):Bool × Pat:=(!decide (0≤zAQ (fun y=>decide (zCg=y)) l 0),⟨zC4 (l.headD ⟨#[]⟩) ⟨#[58]⟩,[],[],[]⟩)
def zOY (s:ByteArray):Pat:=((zBD s nlB).tail.foldl zCF (zOW (zBD s nlB))).2
theorem zPS {s:ByteArray}(h:zGC s=true):zCM s=0∨zCM s=1:=by
 unfold zGC at h;simp only[Bool.and_eq_true,decide_eq_true_eq]at h;have h1:=h.1;unfold zCM at h1 ⊢;simp only[zAQ]at h1 ⊢;split
 · exact .inl rfl
 · rename_i hx
   rw[if_neg hx]at h1;split
   · exact .inr rfl
   · rename_i hy
     rw[if_neg hy]at h1;exact absurd h1 (by decide)
theorem zCQ (m:Int × Value):(msgL m).length=2:=rfl
theorem zH8 (s sep:ByteArray)(h1:1≤sep.size):∃a l,zBD s sep=a::l∧l.length≤s.size:=by
 have h2:(zBD s sep).length=Lib.countB s sep+1:=Lib.splitB_all _ h1 0 _ s rfl;have h3:=Lib.countB_le sep h1 s.size s (Nat.le_refl _);cases hs:zBD s sep with
 | nil=>rw[hs]at h2;simp at h2
 | cons a l=>rw[hs]at h2;exact⟨a,l,rfl,by simp only[List.length_cons]at h2;omega⟩
theorem zDS (s:ByteArray)(a b:Nat):(s.extract a b).size≤s.size:=by
 rw[ByteArray.size_extract];omega
theorem zEd (sep:ByteArray):∀(k:Nat) (s:ByteArray),∀x∈Lib.splitB sep 0 k s,x.size≤s.size
 | 0,s,x,hx=>by
   rw[Lib.splitB_zero,List.mem_singleton]at hx;subst hx;exact Nat.le_refl _
 | k+1,s,x,hx=>by
   unfold Lib.splitB at hx;split at hx
   · rw[List.mem_singleton]at hx
     subst hx;exact Nat.le_refl _
   · rcases List.mem_cons.1 hx with rfl|hx
     · exact zDS _ _ _
     · exact Nat.le_trans (zEd sep k _ x hx) (zDS _ _ _)
theorem zRP {ls:List ByteArray}{st:Bool × Pat}(h:(ls.foldl zCF st).2.msgs≠[])(h0:st.2.msgs=[]):1≤ls.length:=by
 cases ls with
 | nil=>exact absurd h0 h
 | cons a l=>simp
theorem MsR.snoc {ρ:List (Nat × Obj)}{ms:List (Int × Value)}{l:List Msg}{v:Value}{m:Msg}(h:MsR ρ ms l)(hs:Sl ρ intL 1 v m.t):MsR ρ (ms++[(m.who,v)]) (l++[m]):=by
 induction h with
 | nil=>exact .cons hs .nil
 | cons h _ ih=>exact .cons h ih
section
variable {we w:World}{ρ:List (Nat × Obj)}{σ F:List HP}{v:Value}
theorem zNK {s:ByteArray}{p:Pat}(hv:Vars we)(hs:s.size≤1000)(hp:zOY s=p)(hr:zBS p=true)(hpr:zEi p=s)(hS:St we ρ σ w) :
 Cl Tryz.prog 192 [.string s] w fun v w'=>∃pv ρ',v = .tuple #[pv,pI 0]∧Over we ρ ρ'∧PatR ρ' pv p∧St we ρ' σ w':=by
 have kS:∀{σ:List HP} {w:World},St we ρ σ w→_:=fun hS=>zB1 (s:=s) (sep:=nlB) hv (by omega) (by decide) hS
 unfold zOY at hp;obtain⟨l0,ls,hls,hln⟩:=zH8 s nlB (by decide);rw[hls]at hp kS;refine Run.calls1 (n:=70) Tryz.func192 rfl rfl rfl ?_;repeat' first|(refine Qc 34 (c:=kS hS) (k':=?_);clear hS;rintro v w1 hS;obtain⟨ρ1,o1,s1,hT⟩:=zAH zBU hS;clear hS;have hS:=hT;clear hT;obtain⟨wq,wc,rfl,k1,k2,krow⟩:=s1.val)|apply Qs|apply Qr|apply Qn|refine Ql ?_|(refine Qa ?_;clear hS;intro b w1 hS)
 have hsz:∀x∈l0::ls,x.size≤1000:=fun x hx=>Nat.le_trans (by rw[← hls]at hx;exact zEd _ _ s x hx) hs
 obtain⟨p1,p2,p3,p4,p5,p6,p7⟩:=zAs hr;have hl1:1≤ls.length:=zRP (st:=zOW (l0::ls)) (fun h=>p3 (by rw[← hp];exact h)) rfl;obtain⟨lb,lo,lc,lel,lfr,rfl,lm,lh⟩:=s1.str (i:=0) (by simp);have s2:=zQy s1;unfold maxLen at k2;have hlc:(l0::ls).length=ls.length+1:=rfl;have kT:∀{σ:List HP} {w:World},St we ρ1 σ w→_:=fun hS=>zFV (s:=l0) (p:=⟨#[58]⟩) (Nat.le_trans (hsz _ (.head _)) (by decide)) hS
 have kD:∀{σ:List HP} {w:World},St we ρ1 σ w→_:=fun hS=>zK6 (x:=zCg) s1 (by simp;omega) hS
 obtain⟨b2,hb2⟩:∃x,x=b:=⟨_,rfl⟩
 subst hb2;unfold zOW at hp;simp only[List.headD_cons,List.tail_cons]at hp;generalize zC4 l0 ⟨#[58]⟩=nm at kT hp;generalize decide (0≤zAQ (fun y=>decide (zCg=y)) (l0::ls) 0)=bh at kD hp;repeat' first|(refine Ql ?_ (h:=by apply Still.load;rfl;rfl;exact Rd.ro lm;exact lh))|(refine Ql ?_ (h:=by apply Still.sliceLo (o:=lo+1) (l:=ls.length) (c:=wc - 1);rfl;rfl;rfl;rfl;omega;omega;omega;rfl;rfl;rfl))|(refine Qv 243 (kT hS) ?_;clear hS;intro w1 hS)|(refine Qv 244 (kD hS) ?_;clear hS;intro w1 hS)|apply Qs|apply Qr|apply Qn|refine Ql ?_|(refine Qa ?_;clear hS;intro b w1 hS)|(refine Qd ?_;clear hS;intro w1 hS)|apply Qb
 obtain⟨b5,hb5⟩:∃x,x=b:=⟨_,rfl⟩
 subst hb5;have hS2:St we ρ1 (Vec 137 2 (.slice none 0 0) 0 []::Row b5 [.string nm,.slice none 0 0,.slice none 0 0,.slice none 0 0] 84::Row b2 [.string ⟨#[]⟩,.slice none 0 0,.slice none 0 0,.slice none 0 0] 84 :: σ) _:=zAh hS.pk;clear hS;have hnil:∀ ρ:List (Nat × Obj),Sl ρ intL 1 (.slice none 0 0) []:=fun ρ=>⟨⟨none,0,rfl,by simp,by simp,fun h=>by simp at h⟩⟩
 refine Run.while (fun x:Nat × (Bool × Pat) × (Value × Value × Value) × List (Int × Value) × List (Nat × Obj)=>[(0,.string s),(24,.slice (some ⟨lb,lo+1,none⟩) ls.length (wc - 1)),(25,pI ls.length),(26,pI x.1),(5,pP b5),(6,.bool x.2.1.1),(2,pP b2)])
  (fun x w=>x.1≤ls.length∧((ls.drop x.1).foldl zCF x.2.1).2=p∧x.2.1.2.name=nm∧x.2.2.2.1.length≤x.1∧Over we ρ1 x.2.2.2.2∧Sl x.2.2.2.2 intL 1 x.2.2.1.1 x.2.1.2.pre0∧Sl x.2.2.2.2 intL 1 x.2.2.1.2.1 x.2.1.2.pre1∧MsR x.2.2.2.2 x.2.2.2.1 x.2.1.2.msgs ∧
    St we x.2.2.2.2 (Vec 137 2 x.2.2.1.2.2 x.2.2.2.1.length (x.2.2.2.1.flatMap msgL)::Row b5 [.string nm,x.2.2.1.1,x.2.2.1.2.1,x.2.2.1.2.2] 84::Row b2 [.string ⟨#[]⟩,.slice none 0 0,.slice none 0 0,.slice none 0 0] 84 :: σ) w) (fun x=>ls.length - x.1)
  (0,(!bh,⟨nm,[],[],[]⟩),(.slice none 0 0,.slice none 0 0,.slice none 0 0),[],ρ1) ⟨Nat.zero_le _,hp,rfl,Nat.le_refl _,Over.refl _ _,hnil _,hnil _,.nil,hS2⟩ (by exact Sb) ?_
 clear hS2 hp;rintro⟨i,⟨bh,q⟩,⟨v0,v1,vm⟩,ms,ρ2⟩ w ⟨hi,hp,hnm,hms,o2,hl0,hl1',hmr,hS⟩ ih;simp only at hi hp hnm hms o2 hl0 hl1' hmr hS ih ⊢;obtain⟨q0,c0,rfl,-⟩:=hl0.val;obtain⟨q1,c1,rfl,-⟩:=hl1'.val;obtain⟨qm,cm,rfl⟩:=zAG hS;by_cases hlt:i<ls.length
 · obtain⟨b0,o0,cs0,e0,f0,he0,m0,h0⟩:=(s2.mono o2.sub).str hlt
   simp only[Option.some.injEq,Addr.mk.injEq]at he0;obtain⟨rfl,rfl,-⟩:=he0;rw[List.drop_eq_getElem_cons hlt,List.foldl_cons]at hp;have hyz:=hsz ls[i] (List.mem_cons_of_mem _ (List.getElem_mem hlt));generalize ls[i]=y at hp h0 hyz;have kW:∀{σ:List HP} {w:World},St we ρ2 σ w→_:=fun hS=>zRH (s:=y) hv (by omega) hS
   have hcase:y=zCg∨(¬y=zCg∧zGC y=false)∨(¬y=zCg∧zGC y=true∧bh=true)∨(¬y=zCg∧zGC y=true∧bh=false∧zCM y=0)∨(¬y=zCg∧zGC y=true∧bh=false∧zCM y=1):=by
    by_cases h1:y=zCg
    · exact .inl h1
    · cases h2:zGC y
      · exact .inr (.inl ⟨h1,rfl⟩)
      · cases bh
        · rcases zPS h2 with h3|h3
          · exact .inr (.inr (.inr (.inl ⟨h1,rfl,rfl,h3⟩)))
          · exact .inr (.inr (.inr (.inr ⟨h1,rfl,rfl,h3⟩)))
        · exact .inr (.inr (.inl ⟨h1,rfl,rfl⟩))
   obtain⟨rf,hrf⟩:∃x,zCM y=x:=⟨_,rfl⟩
   obtain⟨rt,hrt⟩:∃x,zEF y=x:=⟨_,rfl⟩
   obtain⟨rk,hrk⟩:∃x,zGC y=x:=⟨_,rfl⟩
   obtain⟨st,hst⟩:∃x,zCF (bh,q) y=x:=⟨_,rfl⟩
   rw[hst]at hp;unfold zCF at hst;rw[hrf,hrt,hrk]at kW hst;rw[hrf,hrk]at hcase;have hlsz:ls.length≤1000:=by omega
   replace ih:=fun st a b c ms ρ' w h1 h2 h3 h4 h5 h6 h7 h8=>ih (i+1,st,(a,b,c),ms,ρ') w ⟨by simp only;omega,h1,h2,h3,h4,h5,h6,h7,h8⟩ (by simp only;omega)
   simp only at ih;rcases hcase with hd|⟨hd,rfl⟩|⟨hd,rfl,rfl⟩|⟨hd,rfl,rfl,rfl⟩|⟨hd,rfl,rfl,rfl⟩
   all_goals
    simp only[hd,if_true,if_false,Bool.false_eq_true,Bool.true_eq_false,Int.reduceEq,reduceIte,not_true_eq_false,not_false_eq_true]at hst;subst hst;repeat' first|(refine Ql ?_ (h:=by apply Still.load;rfl;rfl;exact Rd.ro m0;exact h0))|(apply Rs<;>intro hc<;>first|exact absurd hc hd|exact absurd hd hc|(exfalso;omega)|skip)|(refine Qc 245 (c:=kW hS) (k':=?_);clear hS;rintro v w1 ⟨tv,ρ3,rfl,o3,s3,hS⟩;obtain⟨tq,tc,rfl,-⟩:=s3.val)|(apply RO.op;apply OP.append (size:=2) (bytes:=32) (k:=1) (news:=[pI rf,.slice tq rt.length tc]) hS;rfl;rfl;rfl;rfl;rfl;rfl;rfl;rfl;exact(by omega);exact An;(exact Rd.any);rfl;rfl;exact(by intro v hv;simp at hv;rcases hv with rfl|rfl<;>rfl);(exact(by unfold maxLen;omega));(exact(by omega));rfl;clear hS;intro v2 w1 hS;obtain⟨pk2,capk2,rfl⟩:=zAG hS)|(refine Ql ?_ (h:=Sx))|apply Qs|apply Qr|apply Qn|refine Ql ?_|(refine Qa ?_;clear hS;intro b w1 hS)|(refine Qd ?_;clear hS;intro w1 hS)|(refine Qg ?_;clear hS;intro b w1 hS)|refine Qt ?_|refine Qf ?_|apply Qk|apply Qb|apply Qi
   · exact Run.weaken (by exact Sb) (ih (true,q) (.slice q0 q.pre0.length c0) (.slice q1 q.pre1.length c1) (.slice qm ms.length cm) ms ρ3 _ hp hnm (by omega) (o2.trans o3) (hl0.mono o3.sub) (hl1'.mono o3.sub) (hmr.mono o3.sub) hS.pk)
   · exact Run.weaken (by exact Sb) (ih (bh,q) (.slice q0 q.pre0.length c0) (.slice q1 q.pre1.length c1) (.slice qm ms.length cm) ms ρ3 _ hp hnm (by omega) (o2.trans o3) (hl0.mono o3.sub) (hl1'.mono o3.sub) (hmr.mono o3.sub) hS.pk)
   · have hfl:(ms++[(rf,Value.slice tq rt.length tc)]).flatMap msgL=ms.flatMap msgL++[pI rf,.slice tq rt.length tc]:=by rw[List.flatMap_append];rfl
     have hll:(ms++[(rf,Value.slice tq rt.length tc)]).length=ms.length+1:=by simp
     refine Run.weaken (by exact Sb) (ih (true,{ q with msgs:=q.msgs++[⟨rf,rt⟩] }) (.slice q0 q.pre0.length c0) (.slice q1 q.pre1.length c1) (.slice pk2 (ms.length+1) capk2) (ms++[(rf,.slice tq rt.length tc)]) ρ3 _ hp hnm (by rw[hll];omega) (o2.trans o3) (hl0.mono o3.sub) (hl1'.mono o3.sub) (MsR.snoc (m:=⟨rf,rt⟩) (hmr.mono o3.sub) s3) ?_);rw[hfl,hll];exact hS.pk
   · exact Run.weaken (by exact Sb) (ih (false,{ q with pre0:=rt }) (.slice tq rt.length tc) (.slice q1 q.pre1.length c1) (.slice qm ms.length cm) ms ρ3 _ hp hnm (by omega) (o2.trans o3) s3 (hl1'.mono o3.sub) (hmr.mono o3.sub) hS.pk)
   · exact Run.weaken (by exact Sb) (ih (false,{ q with pre1:=rt }) (.slice q0 q.pre0.length c0) (.slice tq rt.length tc) (.slice qm ms.length cm) ms ρ3 _ hp hnm (by omega) (o2.trans o3) (hl0.mono o3.sub) s3 (hmr.mono o3.sub) hS.pk)
 · obtain rfl:i=ls.length:=by omega
   rw[List.drop_length]at hp;simp only[List.foldl_nil]at hp;subst hp;obtain⟨ρ3,o3,s3,hT⟩:=zAH zCQ hS;clear hS;have hS:=hT;clear hT;have hpat:PatR ρ3 (.agg #[.string nm,.slice q0 q.pre0.length c0,.slice q1 q.pre1.length c1,.slice qm ms.length cm]) q:=by
    rw[← hnm];exact .mk (hl0.mono o3.sub) (hl1'.mono o3.sub) s3 (hmr.mono o3.sub)
   have kP:∀{σ:List HP} {w:World},St we ρ3 σ w→_:=fun hS=>zIL hr hpat hS
   rw[hpr]at kP;repeat' first|(refine Qv 191 (kP hS) ?_;clear hS;intro w1 hS)|(apply Rs<;>intro hc<;>first|(exfalso;omega)|exact absurd rfl hc|skip)|apply Qs|apply Qr|apply Qn|refine Ql ?_|refine Qy ?_|refine Qf ?_|refine Qe ?_
   rw[show(!decide (s=s))=false by simp];repeat' first|apply Qs|apply Qr|apply Qn|refine Ql ?_|(refine Qd ?_;clear hS;intro w1 hS)|refine Qf ?_|apply Qk
   refine Qw Tryz.func192 ?_;exact⟨_,ρ3,rfl,(o1.trans o2).trans o3,hpat,hS.pk⟩
end
section
variable {c:UInt8}{t:List UInt8}
theorem zEN (r:List UInt8):∀a:List UInt8,c∉a→Lib.index (a++(c::t++r)) (c::t)=a.length
 | [],_=>by
   simp only[List.nil_append,List.cons_append];unfold Lib.index;rw[if_pos (by simp[List.isPrefixOf])];rfl
 | b::a,h=>by
   have hb:c≠b:=fun e=>h (by simp[e])
   have ih:=zEN r a (fun e=>h (by simp[e]));rw[List.cons_append];unfold Lib.index;rw[if_neg (by simp[List.isPrefixOf,hb]),ih,if_neg (by simp),List.length_cons];omega
theorem zOk:∀a:List UInt8,c∉a→Lib.index a (c::t) = -1
 | [],_=>rfl
 | b::a,h=>by
   have hb:c≠b:=fun e=>h (by simp[e])
   have ih:=zOk a (fun e=>h (by simp[e]));unfold Lib.index;rw[if_neg (by simp[List.isPrefixOf,hb]),ih];rfl
theorem zJs {a r:List UInt8}(h:c∉a):Lib.split (a++(c::t++r)) (c::t)=a::Lib.split r (c::t):=by
 have hi:=zEN (c:=c) (t:=t) r a h;unfold Lib.split;rw[Lib.count_hit (by simp) hi];have hd:(a++(c::t++r)).drop (a.length+(c::t).length)=r:=by
  rw[← List.drop_drop,List.drop_left,List.drop_left]
 rw[hd,Nat.add_comm,Lib.splitK,hi,if_neg (by simp)];simp only[Int.toNat_natCast,Nat.add_zero,List.take_left,hd]
theorem zL8 {a:List UInt8}(h:c∉a):Lib.split a (c::t)=[a]:=by
 unfold Lib.split;rw[Lib.count_miss (zOk a h),Lib.splitK]
theorem zOi (x y:List UInt8)(l:List (List UInt8))(sep:List UInt8):Lib.join (x::y::l) sep=x++(sep++Lib.join (y::l) sep):=by
 simp[Lib.join,List.intercalate,List.intersperse]
theorem zIZ:∀l:List (List UInt8),l≠[]→(∀w∈l,c∉w)→Lib.split (Lib.join l (c::t)) (c::t)=l
 | [],h,_=>absurd rfl h
 | [x],_,h=>by rw[Lib.join_one,zL8 (h x (by simp))]
 | x::y::l,_,h=>by
   rw[zOi,zJs (h x (by simp)),zIZ (y::l) (by simp) (fun w hw=>h w (by simp[hw]))]
theorem zHW:∀l:List (List UInt8),(∀w∈l,c∉w)→Lib.split (l.flatMap fun w=>w++[c]) [c]=l++[[]]
 | [],_=>by rw[List.flatMap_nil,zL8 (by simp)];rfl
 | x::l,h=>by
   rw[List.flatMap_cons,List.append_assoc];show Lib.split (x++([c]++_)) [c]=_;rw[show x++([c]++l.flatMap fun w=>w++[c])=x++(c::[]++l.flatMap fun w=>w++[c]) from rfl,zJs (h x (by simp)),zHW l (fun w hw=>h w (by simp[hw]))];rfl
end
abbrev dl (s:ByteArray):List UInt8:=s.data.toList
def bl (l:List UInt8):ByteArray:=⟨l.toArray⟩
theorem zCH (a b:ByteArray):dl (a++b)=dl a++dl b:=by simp[dl,ByteArray.data_append]
theorem zQW (s:ByteArray):bl (dl s)=s:=by simp[bl,dl]
theorem zQM (l:List UInt8):dl (bl l)=l:=by simp[bl,dl]
theorem zLY (s sep:ByteArray):zBD s sep=(Lib.split (dl s) (dl sep)).map bl:=by
 have h:=Lib.splitB_data sep 0 (Lib.countB s sep) s;unfold zBD Lib.split;rw[show Lib.count (dl s) (dl sep)=Lib.countB s sep from rfl,← h,List.map_map];conv=>lhs;rw[← List.map_id (Lib.splitB sep 0 (Lib.countB s sep) s)]
 exact List.map_congr_left fun x _=>(zQW x).symm
def zCS (f:Int)(l:List Int):List UInt8:=dl (zCj f)++([32]++Lib.join (l.map fun t=>dl (zCP t)) [44,32])
theorem zGd (f:Int)(l:List Int):dl (zFg f l)=zCS f l++[10]:=by
 unfold zFg zCS zIf;rw[zCH,zCH,zCH];have h1:dl (⟨#[32]⟩:ByteArray)=[32]:=rfl;have h2:dl (⟨#[10]⟩:ByteArray)=[10]:=rfl;have h3:dl (⟨(Lib.join ((l.map zCP).map (·.data.toList)) (⟨#[44,32]⟩:ByteArray).data.toList).toArray⟩:ByteArray)=Lib.join (l.map fun t=>dl (zCP t)) [44,32]:=by
  rw[List.map_map];exact zQM _
 rw[h1,h2,h3];simp only[List.append_assoc]
theorem zLQ {t:Int}(h:1≤t∧t≤7):t=1∨t=2∨t=3∨t=4∨t=5∨t=6∨t=7:=by omega
theorem zL0 {t:Int}(h:1≤t∧t≤7):(44:UInt8)∉dl (zCP t)∧(10:UInt8)∉dl (zCP t):=by
 rcases zLQ h with rfl|rfl|rfl|rfl|rfl|rfl|rfl<;>decide
theorem zPi {t:Int}(h:1≤t∧t≤7):zAQ (fun y=>decide (zCP t=y)) zGI 0=t:=by
 rcases zLQ h with rfl|rfl|rfl|rfl|rfl|rfl|rfl<;>decide
theorem zMC {x:UInt8}(h1:x≠44)(h2:x≠32):∀l:List (List UInt8),(∀w∈l,x∉w)→x∉Lib.join l [44,32]
 | [],_=>by simp[Lib.join_nil]
 | [a],h=>by rw[Lib.join_one];exact h a (by simp)
 | a::b::l,h=>by
   rw[zOi];have:=zMC h1 h2 (b::l) (fun w hw=>h w (by simp[hw]));simp only[List.mem_append,List.mem_cons,List.not_mem_nil,or_false,not_or];exact⟨h a (by simp),⟨h1,h2⟩,this⟩
theorem zKE {f:Int}:(32:UInt8)∉dl (zCj f)∧(10:UInt8)∉dl (zCj f):=by unfold zCj;split<;>decide
theorem zGy {f:Int}{l:List Int}(h:∀t∈l,1≤t∧t≤7):(10:UInt8)∉zCS f l:=by
 unfold zCS;simp only[List.mem_append,List.mem_cons,List.not_mem_nil,or_false,not_or];refine⟨zKE.2,by decide,zMC (by decide) (by decide) _ fun w hw=>?_⟩;obtain⟨t,ht,rfl⟩:=List.mem_map.1 hw;exact(zL0 (h t ht)).2
theorem zO1 (f:Int)(l:List Int):cutS (bl (zCS f l)) ⟨#[32]⟩=(zCj f,bl (Lib.join (l.map fun t=>dl (zCP t)) [44,32]),true):=by
 have hi:Lib.index (zCS f l) [32]=(dl (zCj f)).length:=zEN (c:=32) (t:=[]) _ _ zKE.1;unfold cutS Lib.cut;rw[show(bl (zCS f l)).data.toList=zCS f l from zQM _,show(⟨#[32]⟩:ByteArray).data.toList=[32] from rfl,hi,if_pos (Int.natCast_nonneg _)];have h1:(zCS f l).take (dl (zCj f)).length=dl (zCj f):=List.take_left;have h2:(zCS f l).drop ((dl (zCj f)).length+1)=Lib.join (l.map fun t=>dl (zCP t)) [44,32]:=by
  unfold zCS;rw[← List.drop_drop,List.drop_left];rfl
 simp only[Int.toNat_natCast,List.length_cons,List.length_nil,Nat.zero_add,h1,h2];refine Prod.ext (zQW _) (Prod.ext rfl rfl)
theorem zDP {f:Int}{l:List Int}(hl:l≠[])(h:∀t∈l,1≤t∧t≤7):zEF (bl (zCS f l))=l:=by
 unfold zEF;rw[zO1,zLY];simp only[zQM];have hne:(l.map fun t=>dl (zCP t))≠[]:=by simpa using hl
 rw[show dl (⟨#[44,32]⟩:ByteArray)=44::[32] from rfl,zIZ _ hne fun w hw=>by
  obtain⟨t,ht,rfl⟩:=List.mem_map.1 hw;exact(zL0 (h t ht)).1]
 unfold zLO;rw[List.map_map,List.map_map];conv=>rhs;rw[← List.map_id l]
 refine List.map_congr_left fun t ht=>?_
 simp only[Function.comp_apply,zQW,zPi (h t ht),id]
theorem zOC {f:Int}(hf:f=0∨f=1):zAQ (fun y=>decide (zCj f=y)) [⟨#[45,62]⟩,⟨#[60,45]⟩] 0=f:=by
 rcases hf with rfl|rfl<;>decide
theorem zDQ {f:Int}{l:List Int}(hf:f=0∨f=1):zCM (bl (zCS f l))=f:=by
 unfold zCM;rw[zO1];exact zOC hf
theorem zGq {f:Int}{l:List Int}(hf:f=0∨f=1)(hl:l≠[])(h:∀t∈l,1≤t∧t≤7):zGC (bl (zCS f l))=true:=by
 unfold zGC;rw[zDQ hf,zDP hl h];have h1:(l.any fun t=>decide (t<1))=false:=by
  rw[List.any_eq_false];intro t ht;have:=h t ht;simp;omega
 rw[h1,decide_eq_true (by omega)];rfl
theorem zGQ {f:Int}{l:List Int}:bl (zCS f l)≠zCg:=by
 intro h;have h2:=congrArg dl h;rw[zQM]at h2;unfold zCS zCj at h2;split at h2<;>simp[zCg,dl]at h2
theorem zNA:zGC (bl [])=false:=by decide
def preL (p:Pat):List (List UInt8) :=
 (if 0<p.pre0.length then [zCS 0 p.pre0] else [])++(if 0<p.pre1.length then [zCS 1 p.pre1] else [])++(if 0<p.pre0.length∨0<p.pre1.length then [dl zCg] else [])
def zFf (l:List Msg):List (List UInt8):=l.map fun m=>zCS m.who m.t
def endl (l:List (List UInt8)):List UInt8:=l.flatMap fun w=>w++[10]
theorem zN1 (a b:List (List UInt8)):endl (a++b)=endl a++endl b:=by simp[endl]
theorem zO0:∀(l:List Msg) (out:ByteArray),dl (zHe out l)=dl out++endl (zFf l)
 | [],out=>by simp[zHe,zFf,endl]
 | m::l,out=>by
   have h1:=zO0 l (out++zFg m.who m.t);unfold zHe at h1 ⊢;rw[List.foldl_cons,h1,zCH,zGd];simp[zFf,endl]
theorem zNZ (f:Int)(l:List Int):zFg f l≠⟨#[]⟩:=by
 intro h;have:=congrArg dl h;rw[zGd]at this;simp[dl]at this
theorem zSu {a b:ByteArray}(h:b≠⟨#[]⟩):a++b≠⟨#[]⟩:=by
 intro e;have h1:=congrArg dl e;rw[zCH]at h1;refine h ?_;have h2:dl b=[]:=(List.append_eq_nil_iff.1 h1).2;rw[← zQW b,h2];rfl
theorem zT9 (p:Pat):dl (zG4 p)=endl ((dl p.name++[58])::preL p):=by
 have e1:dl (⟨#[58,10]⟩:ByteArray)=[58,10]:=rfl;have e2:dl (⟨#[46,46,46,10]⟩:ByteArray)=[46,46,46,10]:=rfl;have e3:dl (⟨#[]⟩:ByteArray)=[]:=rfl;have e4:dl zCg=[46,46,46]:=rfl;unfold zG4 preW preL;by_cases h0:0<p.pre0.length<;>by_cases h1:0<p.pre1.length;all_goals
  simp only[h0,h1,if_true,if_false,or_true,true_or,or_false,false_or]
 · rw[if_neg (zSu (zNZ _ _))]
   simp[zCH,zGd,endl,e1,e2,e3,e4]
 · rw[if_neg (zSu (zNZ _ _))]
   simp[zCH,zGd,endl,e1,e2,e3,e4]
 · rw[if_neg (zSu (zNZ _ _))]
   simp[zCH,zGd,endl,e1,e2,e3,e4]
 · simp[zCH,endl,e1,e3]
theorem zLm {s:ByteArray}:∀(n i:Nat),s.size≤i+n→zCl zDr s n i=true→∀(j:Nat) (h:j<s.size),i≤j→(s[j]'h).toNat≠10
 | 0,i,hn,_,j,h,hij=>by omega
 | n+1,i,hn,hr,j,h,hij=>by
   have hi:i<s.size:=by omega
   unfold zCl at hr;rw[if_pos hi,Bool.and_eq_true]at hr;obtain⟨h1,h2⟩:=hr;by_cases ha:(s[i]'hi).toNat<128
   · rw[decode_ascii s i hi ha]at h1 h2
     by_cases hj:j=i
     · subst hj
       intro h10;rw[h10]at h1;exact absurd h1 (by decide)
     · exact zLm n (i+1) (by omega) h2 j h (by omega)
   · have hh:=(decode_high s i hi (by omega)).1
     unfold zDr at h1;simp only[Bool.not_eq_true',Bool.and_eq_false_imp,Bool.and_eq_true,decide_eq_true_eq,decide_eq_false_iff_not]at h1;exact absurd h1 (by
      intro hx;have:=hx ⟨⟨by omega,by omega⟩,by omega⟩;omega)
theorem zVH {p:Pat}(hr:zBS p=true):(10:UInt8)∉dl p.name:=by
 have h1:zGK p.name=true:=by
  unfold zBS at hr;simp only[Bool.and_eq_true]at hr;exact hr.1.1.1.1.1
 unfold zGK at h1;simp only[Bool.and_eq_true]at h1;intro h;obtain⟨j,hj,e⟩:=List.getElem_of_mem h;have hj2:j<p.name.size:=hj;refine zLm p.name.size 0 (by omega) h1.1.1 j hj2 (Nat.zero_le _) ?_;have e2:p.name[j]'hj2=10:=by
  rw[← e];rfl
 rw[e2];rfl
theorem zQp (s:ByteArray):zC4 (bl (dl s++[58])) ⟨#[58]⟩=s:=by
 unfold zC4 Lib.trimSuffix Lib.hasSuffix;rw[show(bl (dl s++[58])).data.toList=dl s++[58] from zQM _,show(⟨#[58]⟩:ByteArray).data.toList=[58] from rfl];rw[if_pos (by rw[List.isSuffixOf_iff_suffix];exact List.suffix_append _ _)];rw[List.length_append,Nat.add_sub_cancel,List.take_left]
theorem zRf (s:ByteArray):bl (dl s++[58])≠zCg:=by
 intro h;have h2:=congrArg dl h;rw[zQM]at h2;have h3:=congrArg (fun l:List UInt8=>l.getLast?) h2;simp[zCg,dl]at h3
theorem zPX {f:Int}{l:List Int}{q:Pat}(hf:f=0∨f=1)(hl:l≠[])(h:∀t∈l,1≤t∧t≤7):zCF (true,q) (bl (zCS f l))=(true,{ q with msgs:=q.msgs++[⟨f,l⟩] }):=by
 unfold zCF;rw[if_neg zGQ,if_neg (by rw[zGq hf hl h];decide),if_pos rfl,zDQ hf,zDP hl h]
theorem zJi {l:List Int}{q:Pat}(hl:l≠[])(h:∀t∈l,1≤t∧t≤7):zCF (false,q) (bl (zCS 0 l))=(false,{ q with pre0:=l }):=by
 unfold zCF;rw[if_neg zGQ,if_neg (by rw[zGq (.inl rfl) hl h];decide),if_neg Bool.false_ne_true,zDQ (.inl rfl),if_pos rfl,zDP hl h]
theorem zJh {l:List Int}{q:Pat}(hl:l≠[])(h:∀t∈l,1≤t∧t≤7):zCF (false,q) (bl (zCS 1 l))=(false,{ q with pre1:=l }):=by
 unfold zCF;rw[if_neg zGQ,if_neg (by rw[zGq (.inr rfl) hl h];decide),if_neg Bool.false_ne_true,zDQ (.inr rfl),if_neg (by decide),zDP hl h]
theorem zGs {st:Bool × Pat}:zCF st (bl (dl zCg))=(true,st.2):=by
 unfold zCF;rw[zQW,if_pos rfl]
theorem zPW {st:Bool × Pat}:zCF st (bl [])=st:=by
 unfold zCF;rw[if_neg (by decide),if_pos zNA]
theorem zEt:∀(l:List Msg) (q:Pat),(∀m∈l,(m.who=0∨m.who=1)∧m.t≠[]∧∀t∈m.t,1≤t∧t≤7)→(((zFf l++[[]]).map bl).foldl zCF (true,q))=(true,{ q with msgs:=q.msgs++l })
 | [],q,_=>by
   show zCF (true,q) (bl [])=_;rw[zPW,List.append_nil]
 | m::l,q,h=>by
   obtain⟨h1,h2,h3⟩:=h m (by simp);show((zFf l++[[]]).map bl).foldl zCF (zCF (true,q) (bl (zCS m.who m.t)))=_;rw[zPX h1 h2 h3,zEt l _ (fun x hx=>h x (by simp[hx]))];simp
theorem zNJ {p:Pat}(hr:zBS p=true):zOY (zEi p)=p:=by
 obtain⟨p1,p2,p3,p4,p5,p6,p7⟩:=zAs hr;have hm:∀m∈p.msgs,(m.who=0∨m.who=1)∧m.t≠[]∧∀t∈m.t,1≤t∧t≤7:=fun m h=>⟨(p5 m h).1,fun e=>by have:=(p5 m h).2.1;rw[e]at this;simp at this,(p5 m h).2.2.2⟩
 have q0:∀t∈p.pre0,1≤t∧t≤7:=fun t h=>by rcases p6 t h with rfl|rfl<;>decide
 have q1:∀t∈p.pre1,1≤t∧t≤7:=fun t h=>by rcases p7 t h with rfl|rfl<;>decide
 have hdl:dl (zEi p)=endl ((dl p.name++[58])::(preL p++zFf p.msgs)):=by
  unfold zEi;rw[zO0,zT9,← zN1];rfl
 have hfree:∀w∈(dl p.name++[58])::(preL p++zFf p.msgs),(10:UInt8)∉w:=by
  intro w hw;rcases List.mem_cons.1 hw with rfl|hw
  · have:=zVH hr
    simp[this]
  · rcases List.mem_append.1 hw with hw|hw
    · unfold preL at hw
      rcases List.mem_append.1 hw with hw|hw
      · rcases List.mem_append.1 hw with hw|hw
        · split at hw
          · rw[List.mem_singleton]at hw;subst hw;exact zGy q0
          · simp at hw
        · split at hw
          · rw[List.mem_singleton]at hw;subst hw;exact zGy q1
          · simp at hw
      · split at hw
        · rw[List.mem_singleton]at hw;subst hw;decide
        · simp at hw
    · obtain⟨m,h1,rfl⟩:=List.mem_map.1 hw
      exact zGy (hm m h1).2.2
 have hsp:zBD (zEi p) nlB=((((dl p.name++[58])::(preL p++zFf p.msgs))++[[]]).map bl):=by
  rw[zLY,hdl,show dl nlB=[10] from rfl];unfold endl;rw[zHW _ hfree]
 unfold zOY;rw[hsp,List.cons_append,List.map_cons,List.tail_cons];unfold zOW;rw[List.headD_cons,zQp];have hfn:=zDJ (p:=fun y=>decide (zCg=y)) (l:=bl (dl p.name++[58])::((preL p++zFf p.msgs)++[[]]).map bl) (i:=0) (by omega);have n0:∀l:List Int,0<l.length→l≠[]:=fun l h=>List.length_pos_iff.1 h
 have hz:∀l:List Int,¬ 0<l.length→l=[]:=fun l h=>List.eq_nil_of_length_eq_zero (by omega)
 have hyes:(0<p.pre0.length∨0<p.pre1.length)→0≤zAQ (fun y=>decide (zCg=y)) (bl (dl p.name++[58])::((preL p++zFf p.msgs)++[[]]).map bl) 0:=fun h=>hfn.2 (by
  rw[List.any_eq_true];exact⟨zCg,List.mem_cons_of_mem _ (List.mem_map.2 ⟨dl zCg,by simp[preL,h],zQW _⟩),by simp⟩)
 by_cases h0:0<p.pre0.length<;>by_cases h1:0<p.pre1.length
 · rw[decide_eq_true (hyes (.inl h0))]
   simp only[preL,h0,h1,if_true,or_true];show(((zFf p.msgs++[[]]).map bl).foldl zCF (zCF (zCF (zCF (false,_) (bl (zCS 0 p.pre0))) (bl (zCS 1 p.pre1))) (bl (dl zCg)))).2=p;rw[zJi (n0 _ h0) q0,zJh (n0 _ h1) q1,zGs,zEt _ _ hm];simp
 · rw[decide_eq_true (hyes (.inl h0))]
   simp only[preL,h0,h1,if_true,if_false,true_or,List.append_nil];show(((zFf p.msgs++[[]]).map bl).foldl zCF (zCF (zCF (false,_) (bl (zCS 0 p.pre0))) (bl (dl zCg)))).2=p;rw[zJi (n0 _ h0) q0,zGs,zEt _ _ hm];simp[← hz _ h1]
 · rw[decide_eq_true (hyes (.inr h1))]
   simp only[preL,h0,h1,if_true,if_false,or_true,List.nil_append];show(((zFf p.msgs++[[]]).map bl).foldl zCF (zCF (zCF (false,_) (bl (zCS 1 p.pre1))) (bl (dl zCg)))).2=p;rw[zJh (n0 _ h1) q1,zGs,zEt _ _ hm];simp[← hz _ h0]
 · have hno:¬ 0≤zAQ (fun y=>decide (zCg=y)) (bl (dl p.name++[58])::((preL p++zFf p.msgs)++[[]]).map bl) 0:=by
    rw[hfn,List.any_eq_true];rintro⟨y,hy,e⟩;have e2:zCg=y:=by simpa using e
    subst e2;rcases List.mem_cons.1 hy with h|h
    · exact zRf _ h.symm
    · obtain⟨w,hw,hb⟩:=List.mem_map.1 h
      simp only[preL,h0,h1,if_false,or_false,List.append_nil,List.nil_append]at hw;rcases List.mem_append.1 hw with hw|hw
      · obtain⟨m,-,rfl⟩:=List.mem_map.1 hw
        exact zGQ hb
      · rw[List.mem_singleton]at hw
        subst hw;exact absurd hb (by decide)
   rw[decide_eq_false hno];simp only[preL,h0,h1,if_false,or_false,List.append_nil,List.nil_append];show(((zFf p.msgs++[[]]).map bl).foldl zCF (true,_)).2=p;rw[zEt _ _ hm];have e0:=hz _ h0;have e1:=hz _ h1;rw[List.nil_append];clear hdl hfree hsp hfn hyes hno n0 hz hm q0 q1 p1 p2 p3 p4 p5 p6 p7 hr h0 h1;obtain⟨nm,a,b,ms⟩:=p;simp only at e0 e1;subst e0 e1;rfl
def zCs (w:ByteArray)(n:Nat):List Int:=((List.range n).map fun i:Nat=>(i:Int)+1).filter fun t=>decide (zCP t=w)
theorem zMp (w:ByteArray)(n:Nat):zCs w (n+1)=zCs w n++(if zCP ((n:Int)+1)=w then [(n:Int)+1] else []):=by
 unfold zCs;rw[List.range_succ,List.map_append,List.filter_append];by_cases h:zCP ((n:Int)+1)=w<;>simp[h]
theorem zJV (w:ByteArray)(n:Nat):(zCs w n).length≤n:=by
 unfold zCs;refine Nat.le_trans (List.length_filter_le _ _) ?_;simp
def zEU (s:ByteArray):List ByteArray:=(Lib.fields (dl s)).map bl
def zAa (s:ByteArray):List Int:=(zEU s).flatMap fun w=>zCs w 7
def zI2 (s:ByteArray):Bool:=(dl s).all fun b=>decide (b.toNat<128)
def zBf (we:World):Prop:=∀c:Nat,c<256→we.cell? ⟨6,c,none⟩=some (.int .u8 (if Lib.isSp (UInt8.ofNat c)then 1 else 0))
section
variable {we w:World}{ρ:List (Nat × Obj)}{σ F:List HP}{v:Value}
theorem zH5 {s:ByteArray}(hT:zBf we)(hs:s.size≤1000)(ha:zI2 s=true)(hS:St we ρ σ w) :
 Cl Tryz.prog 233 [.string s] w fun v w'=>St we ρ (Vec 9 1 v (zEU s).length ((zEU s).flatMap strL) :: σ) w':=by
 have hascii:∀(j:Nat) b,s.data.toList[j]? = some b→b.toNat<128:=fun j b hj=>by
  unfold zI2 at ha;rw[List.all_eq_true]at ha;simpa using ha b (List.mem_of_getElem? hj)
 have hlen:(Lib.fields s.data.toList).length≤1001:=by
  rw[Lib.fields_length];have h2:∀(l:List UInt8) (b:Bool),Lib.cntF b l≤l.length:=by
   intro l;induction l with
   | nil=>intro b;simp[Lib.cntF]
   | cons x l ih =>
     intro b;have:=ih (Lib.isSp x);rw[Lib.cntF_step,List.length_cons];split<;>omega
  have:=h2 s.data.toList true;have h3:s.data.toList.length=s.size:=rfl;omega
 refine⟨(Any.strings_Fields_core zVX hi9S s w (by omega) hascii (fun c hc=>zDz hS (hT c hc))).mono fun e w' ⟨h,hw⟩=>?_⟩;subst h hw;show St we ρ (Vec 9 1 _ (zEU s).length ((zEU s).flatMap strL) :: σ) _;have hwl:(zEU s).length=(Lib.fields s.data.toList).length:=by unfold zEU;rw[List.length_map]
 have hcells:(Lib.fields s.data.toList).map (fun l=>Value.string ⟨l.toArray⟩)=(zEU s).flatMap strL:=by
  rw[zEc];unfold zEU;rw[List.map_map];rfl
 rw[hcells,hwl];refine zBF (hS.alloc _) (Nat.le_refl _) (by unfold maxLen;omega) (by rw[zEc,List.length_map,hwl,Nat.mul_one]) ?_;rw[Nat.mul_one];exact List.take_of_length_le (by rw[zEc,List.length_map,hwl];exact Nat.le_refl _)
theorem zEa {s:ByteArray}(hT:zBf we)(hs:s.size≤1000)(ha:zI2 s=true)(hS:St we ρ σ w) :
 Cl Tryz.prog 185 [.string s] w fun v w'=>St we ρ (Vec 3 1 v (zAa s).length ((zAa s).flatMap intL) :: σ) w':=by
 have kF:∀{σ:List HP} {w:World},St we ρ σ w→_:=fun hS=>zH5 hT hs ha hS
 have hlen:(zEU s).length≤1001:=by
  unfold zEU;rw[List.length_map,Lib.fields_length];have h2:∀(l:List UInt8) (b:Bool),Lib.cntF b l≤l.length:=by
   intro l;induction l with
   | nil=>intro b;simp[Lib.cntF]
   | cons x l ih =>
     intro b;have:=ih (Lib.isSp x);rw[Lib.cntF_step,List.length_cons];split<;>omega
  have:=h2 (dl s) true;have h3:(dl s).length=s.size:=rfl;omega
 unfold zAa;generalize zEU s=ws at kF hlen;refine Run.calls1 (n:=28) Tryz.func185 rfl rfl rfl ?_;repeat' first|(refine Qc 233 (c:=kF hS) (k':=?_);clear hS;rintro v w1 hS;obtain⟨ρ2,o2,s2,hT⟩:=zAH zBU hS;clear hS;have hS:=hT;clear hT;obtain⟨wq,wc,rfl,k1,k2,-⟩:=s2.val)|apply Qs|apply Qr|apply Qn|refine Ql ?_|apply Qb
 refine Run.while (fun x:Nat × Value=>[(8,.slice wq ws.length wc),(9,pI ws.length),(10,pI x.1),(3,x.2)])
  (fun x w=>x.1≤ws.length∧((ws.take x.1).flatMap fun w=>zCs w 7).length≤7*x.1∧St we ρ2 (Vec 3 1 x.2 ((ws.take x.1).flatMap fun w=>zCs w 7).length (((ws.take x.1).flatMap fun w=>zCs w 7).flatMap intL) :: σ) w) (fun x=>ws.length - x.1) (0,.slice none 0 0) ⟨by simp,by simp,zAh hS.pk⟩ (by exact Sb) ?_
 clear hS;rintro⟨i,ov⟩ w ⟨hi,hb,hS⟩ ih;simp only at hi hb hS ih ⊢;by_cases hlt:i<ws.length
 · obtain⟨b0,o0,cs0,e0,f0,rfl,m0,h0⟩:=s2.str hlt
   have hd:ws.take (i+1)=ws.take i++[ws[i]]:=List.take_succ_eq_append_getElem hlt;generalize ws[i]=y at hd h0;replace ih:=fun v w h1 h=>ih (i+1,v) w ⟨by simp only;omega,h1,h⟩ (by simp only;omega)
   simp only[hd,List.flatMap_append,List.flatMap_cons,List.flatMap_nil,List.append_nil]at ih;generalize ((ws.take i).flatMap fun w=>zCs w 7)=acc at hS ih hb;repeat' first|(refine Ql ?_ (h:=by apply Still.load;rfl;rfl;exact Rd.ro m0;exact h0))|apply Qs|apply Qr|(apply Rs<;>intro hc<;>try exact No)|apply Qn|refine Ql ?_|refine Qt ?_|apply Qk|apply Qb
   refine Run.while (fun x:Nat × Value=>[(8,.slice (some ⟨b0,o0,none⟩) ws.length wc),(9,pI ws.length),(10,pI i),(3,x.2),(5,.string y),(6,pI ((x.1:Int)+1))])
    (fun x w=>x.1≤7∧St we ρ2 (Vec 3 1 x.2 (acc++zCs y x.1).length ((acc++zCs y x.1).flatMap intL) :: σ) w) (fun x=>7 - x.1) (0,ov) ⟨by simp,by simpa[zCs]using hS⟩ (by exact Sb) ?_
   clear hS;rintro⟨n,ov⟩ w ⟨hn,hS⟩ ih2;simp only at hn hS ih2 ⊢;have hal:(acc++zCs y n).length≤8000:=by
    have:=zJV y n;rw[List.length_append];omega
   by_cases hn7:n<7
   · replace ih2:=fun v w h=>ih2 (n+1,v) w ⟨by simp only;omega,h⟩ (by simp only;omega)
     have hsucc:=zMp y n;simp only[hsucc,← List.append_assoc]at ih2;by_cases hy:zCP ((n:Int)+1)=y
     · rw[if_pos hy]at ih2
       have hfl:∀l:List Int,(l++[(n:Int)+1]).flatMap intL=l.flatMap intL++[pI ((n:Int)+1)]:=fun l=>by rw[List.flatMap_append];rfl
       simp only[hfl,List.length_append (bs:=[(n:Int)+1]),List.length_singleton]at ih2;generalize (acc++zCs y n).flatMap intL=xs at hS ih2;generalize (acc++zCs y n).length=al at hS ih2 hal;repeat' first|(refine Qv 234 (zD6 hS) ?_;clear hS;intro w1 hS)|(apply Rs<;>intro hc<;>try(first|(exfalso;omega)|exact absurd hy hc))|(apply RO.op;apply OP.append (size:=1) (bytes:=8) (k:=1) (news:=[pI ((n:Int)+1)]) hS;rfl;rfl;rfl;rfl;rfl;rfl;rfl;rfl;exact(by omega);exact An;(exact Rd.any);rfl;rfl;exact(by intro v hv;simp at hv;subst hv;rfl);(exact(by unfold maxLen;omega));(exact(by omega));rfl;clear hS;intro v2 w1 hS)|apply Qs|apply Qr|apply Qn|refine Ql ?_|(refine Qg ?_;clear hS;intro b w1 hS)|refine Qt ?_|apply Qk|apply Qb|apply Qi
       exact Run.weaken (e':=[(8,.slice (some ⟨b0,o0,none⟩) ws.length wc),(9,pI ws.length),(10,pI i),(3,v2),(5,.string y),(6,pI (((n+1:Nat):Int)+1))]) (by exact Sb) (ih2 v2 _ hS.pk)
     · rw[if_neg hy]at ih2
       simp only[List.append_nil]at ih2;repeat' first|(refine Qv 234 (zD6 hS) ?_;clear hS;intro w1 hS)|(apply Rs<;>intro hc<;>try(first|(exfalso;omega)|exact absurd hc hy))|apply Qs|apply Qr|apply Qn|refine Ql ?_|refine Qt ?_|refine Qf ?_|apply Qk|apply Qb|apply Qi
       exact Run.weaken (e':=[(8,.slice (some ⟨b0,o0,none⟩) ws.length wc),(9,pI ws.length),(10,pI i),(3,ov),(5,.string y),(6,pI (((n+1:Nat):Int)+1))]) (by exact Sb) (ih2 ov _ hS.pk)
   · obtain rfl:n=7:=by omega
     repeat' first|apply Qs|apply Qr|(apply Rs<;>intro hc<;>try exact No)|apply Qn|refine Ql ?_|refine Qf ?_|apply Qi|refine Qe ?_
     have h7:=zJV y 7;exact Run.weaken (e':=[(8,.slice (some ⟨b0,o0,none⟩) ws.length wc),(9,pI ws.length),(10,pI ((i+1:Nat):Int)),(3,ov)]) (by exact Sb) (ih ov _ (by rw[List.length_append];omega) (by rw[← List.flatMap_append];exact hS))
 · obtain rfl:i=ws.length:=by omega
   rw[List.take_length]at hS;repeat' first|apply Qs|apply Qr|(apply Rs<;>intro hc<;>try exact No)|apply Qn|refine Ql ?_|refine Qf ?_|refine Qe ?_
   refine Qw Tryz.func185 ?_;exact o2.back hS.pk
end
def rep0:Rep:=⟨none,0,0,none,0,0,none,0,0,none,0,0⟩
theorem PatR.shape {ρ:List (Nat × Obj)}{v:Value}{p:Pat}(h:PatR ρ v p):∃q0 c0 q1 c1 qm cm,v = .agg #[.string p.name,.slice q0 p.pre0.length c0,.slice q1 p.pre1.length c1,.slice qm p.msgs.length cm]∧Sl ρ intL 1 (.slice q0 p.pre0.length c0) p.pre0∧Sl ρ intL 1 (.slice q1 p.pre1.length c1) p.pre1:=by
 obtain⟨hl0,hl1,hlm,hmr⟩:=h;have hlen:=hmr.length;obtain⟨q0,c0,rfl,-⟩:=hl0.val;obtain⟨q1,c1,rfl,-⟩:=hl1.val;obtain⟨qm,cm,rfl,-⟩:=hlm.val;rw[hlen];exact⟨_,_,_,_,_,_,rfl,hl0,hl1⟩
def zDe (lim:Nat)(p:Pat)(who:Nat)(L:List Nd)(h:Sh):List Nd × Sh × Int :=
 if who=0 then
  if(zAl lim 0 L h p.pre0).2.2≠0 then((zAl lim 0 L h p.pre0).1,.z,(zAl lim 0 L h p.pre0).2.2)
  else if(zAl lim 1 (zAl lim 0 L h p.pre0).1 (zAl lim 0 L h p.pre0).2.1 p.pre1).2.2≠0 then((zAl lim 1 (zAl lim 0 L h p.pre0).1 (zAl lim 0 L h p.pre0).2.1 p.pre1).1,.z,(zAl lim 1 (zAl lim 0 L h p.pre0).1 (zAl lim 0 L h p.pre0).2.1 p.pre1).2.2)
  else zAl lim 1 (zAl lim 0 L h p.pre0).1 (zAl lim 0 L h p.pre0).2.1 p.pre1
 else if who=1 then
  if(zAl lim 1 L h p.pre1).2.2≠0 then((zAl lim 1 L h p.pre1).1,.z,(zAl lim 1 L h p.pre1).2.2) else zAl lim 1 L h p.pre1
 else(L,h,0)
theorem zQ0 (lim:Nat)(L:List Nd)(h:Sh)(who t:Int):(zB9 lim L h who t).2.1.p=h.p∧(zB9 lim L h who t).2.1.psks=h.psks:=by
 unfold zB9;split
 · exact⟨rfl,rfl⟩
 · have h1:=(zF4 lim (zAk lim L h who t).1 h (zAk lim L h who t).2.1 (decide (t=1))).1
   exact⟨h1.p,h1.psks⟩
theorem zL5 (lim:Nat){p:Pat}{who:Nat}(hw:who<2){L:List Nd}{h:Sh}{ll:List Int}(hl:ll=if who=0 then p.pre0 else p.pre1){L':List Nd}{h':Sh}{e':Int}(hq:zAl lim who L h ll=(L',h',e')) :
 zDe lim p who L h=if e'=0 then zDe lim p (who+1) L' h' else(L',.z,e'):=by
 have hc:who=0∨who=1:=by omega
 rcases hc with rfl|rfl
 · rw[if_pos rfl]at hl
   subst hl;have hq0:zAl lim 0 L h p.pre0=(L',h',e'):=hq;unfold zDe;rw[if_pos rfl,hq0];by_cases he:e'=0
   · simp[he]
   · simp[he]
 · rw[if_neg (by decide)]at hl
   subst hl;have hq0:zAl lim 1 L h p.pre1=(L',h',e'):=hq;unfold zDe;rw[if_neg (by decide),if_pos rfl,hq0];by_cases he:e'=0
   · simp[he]
   · simp[he]
theorem zHR {p:Pat}{role:Int}(h:(zBH p role).2=0):zBS p=true:=by
 unfold zBH at h;split at h
 · exact absurd h (by simp)
 · split at h
   · rename_i hz;exact absurd h hz
   · rename_i hz;exact zFu (by simpa using hz)
theorem zNE {p:Pat}(hr:zBS p=true):(zEi p).size≤1000:=by
 obtain⟨p1,p2,p3,p4,p5,p6,p7⟩:=zAs hr;obtain⟨h0,h1⟩:=zCN hr;have a:=zGv p.msgs (zG4 p) (fun m hm=>(p5 m hm).2.2.1);have b:=zJw p1 h0 h1;unfold zEi;omega
section
variable {we w:World}{ρ:List (Nat × Obj)}{σ F:List HP}{pa lim:Nat}{L:List Nd}{p:Pat}{k:Ks}{role pr:Int}{pv qv:Value}
theorem zVg {a b c d e:Int}{t:Bool}{bk cap:Nat}{el:TypeId}{fr:Nat × Nat}(h:[a,b,c,d,e].all (has L)=t)(hS:St we ρ (zAA pa lim L::F) w)(hr:Rd ρ F bk (.cells [pI a,pI b,pI c,pI d,pI e].toArray el fr)) :
 Cl Tryz.prog 22 [pP pa,.slice (some ⟨bk,0,none⟩) 5 cap] w fun v w'=>v = .bool t∧St we ρ (zAA pa lim L::F) w':=by
 subst h;refine zBl (xs:=[a,b,c,d,e]) (off:=0) hS hr (fun i x hi=>?_) (by unfold maxLen;simp);have hi5:i<5:=(List.getElem?_eq_some_iff.1 hi).1;have:i=0∨i=1∨i=2∨i=3∨i=4:=by omega
 rcases this with rfl|rfl|rfl|rfl|rfl<;>(simp at hi;subst hi;rfl)
theorem zMs (hv:Vars we)(hs:p.name.size≤100)(hp:PatR ρ pv p)(hk:Sl ρ intL 1 qv k.psks)(hkl:k.psks.length≤1000)(hS:St we ρ (zAA pa lim L::F) w) :
 Cl Tryz.prog 147 [pP pa,pv,pI role,pI pr,.agg (ksL k qv).toArray] w fun v w'=>∃r ρ',v = .tuple #[.agg (zAg r (zBY lim L p role pr k).2.1 (zBY lim L p role pr k).2.2).toArray,pI (zBY lim L p role pr k).2.2] ∧
  Over we ρ ρ'∧((zBY lim L p role pr k).2.2=0→ShR ρ' r (zBY lim L p role pr k).2.1)∧St we ρ' (zAA pa lim (zBY lim L p role pr k).1::F) w':=by
 have kN:∀{σ:List HP} {w:World},St we ρ σ w→_:=fun hS=>zJl (role:=role) hs hp hS
 have hp0:=hp;obtain⟨hl0,hl1,hlm,hmr⟩:=hp;rename_i v0 v1 vm ms;obtain⟨q0,c0,rfl,-⟩:=hl0.val;obtain⟨q1,c1,rfl,-⟩:=hl1.val;obtain⟨qm,cm,rfl,-⟩:=hlm.val;obtain⟨qk,ck,rfl,kk1,kk2,-⟩:=hk.val;unfold maxLen at kk2;unfold zBY;by_cases he:(zBH p role).2=0;rotate_left
 · rw[if_pos he]
   generalize zBH p role=nq at kN he;obtain⟨nn,ne⟩:=nq;simp only at kN he ⊢;simp only[zAg,if_neg he];refine Run.calls5 (n:=136) Tryz.func147 rfl rfl rfl ?_;repeat' first|(refine Qv 146 (kN hS) ?_;clear hS;intro w1 hS)|apply Qs|apply Qr|apply Qn|refine Ql ?_|(refine Qx ?_;clear hS;intro b w1 hS)|(refine Qa ?_;clear hS;intro b w1 hS)|(refine Qd ?_;clear hS;intro w1 hS)|apply Qb
   rw[decide_eq_true he];repeat' first|apply Qs|apply Qr|apply Qn|refine Ql ?_|(refine Qd ?_;clear hS;intro w1 hS)|refine Qt ?_
   refine Qw Tryz.func147 ?_;exact⟨rep0,ρ,rfl,Over.refl _ _,fun h=>absurd h he,hS.pk⟩
 · rw[if_neg (by simpa using he)]
   have hright:=zHR he;have hpz:=zNE hright;generalize zBH p role=nq at kN he;obtain⟨nn,ne⟩:=nq;simp only at kN he ⊢;subst he;have kH:∀{F:List HP} {w:World} {b:Bool},k.psks.all (has L)=b→St we ρ (zAA pa lim L::F) w→_:=fun h hS=>zOm h hk hS
   have kE:∀{σ:List HP} {w:World},St we ρ σ w→_:=fun hS=>zMP (n:=nn) (h:=zR8 k) hS
   cases h5:[pr,k.s,k.e,k.rs,k.re].all (has L)<;>cases hps:k.psks.all (has L)<;>cases hen:zFq nn (zR8 k);all_goals
    rw[hen]at kE;simp only[Bool.false_and,Bool.true_and,Bool.and_false,if_true,Bool.true_eq_false,if_false]
   all_goals
    refine Run.calls5 (n:=136) Tryz.func147 rfl rfl rfl ?_;repeat' first|(refine Qv 146 (kN hS) ?_;clear hS;intro w1 hS)|apply Qs|apply Qr|apply Qn|refine Ql ?_|(refine Qx ?_;clear hS;intro b w1 hS)|(refine Qa ?_;clear hS;intro b w1 hS)|(refine Qd ?_;clear hS;intro w1 hS)|(refine Qg ?_;clear hS;intro b w1 hS)|refine Qf ?_|apply Qb
    rw[show decide ((0:Int)≠0)=false from rfl];repeat' first|(refine Qv 22 (zVg h5 hS.tk (by exact Rd.any)) ?_;clear hS;intro w1 hS)|(refine Qv 22 (kH hps hS.tk) ?_;clear hS;intro w1 hS)|(refine Qv 190 (kE hS) ?_;clear hS;intro w1 hS)|apply Qs|apply Qr|apply Qn|refine Ql ?_|(refine Qd ?_;clear hS;intro w1 hS)|refine Qy ?_|refine Qz ?_|refine Qt ?_|refine Qf ?_|apply Qk|apply Qi
   all_goals first
    | (refine Qw Tryz.func147 ?_
       exact⟨rep0,ρ,rfl,Over.refl _ _,fun h=>absurd h (by decide),hS.pk⟩)
    | skip
   rename_i b6 x1 b9 x2 b10 x3 x4 b12 x5 x6 b14 x7 x8 x9 x10 x11;have kP:∀{σ:List HP} {w:World},St we ρ σ w→_:=fun hS=>zIL hright hp0 hS
   have kQ:∀{σ:List HP} {w:World},St we ρ σ w→_:=fun hS=>zNK (s:=zEi p) hv hpz (zNJ hright) hright rfl hS
   generalize zEi p=txt at kP kQ;repeat' first|(refine Qv 191 (kP hS) ?_;clear hS;intro w1 hS)|(refine Qc 192 (c:=kQ hS) (k':=?_);clear hS;rintro v w1 ⟨pv2,ρ2,rfl,o2,hp2,hS⟩;obtain⟨z0,d0,z1,d1,zm,dm,rfl,s0,s1⟩:=hp2.shape)|apply Qs|apply Qr|apply Qn|refine Ql ?_|(refine Qa ?_;clear hS;intro b w1 hS)|(refine Qd ?_;clear hS;intro w1 hS)
   obtain⟨b17,hb17⟩:∃x,x=b:=⟨_,rfl⟩
   subst hb17;have hk2:=hk.mono o2.sub;have kK:∀{σ:List HP} {w:World},St we ρ2 σ w→_:=fun hS=>zP0 (n:=nn) (k:=k) hk2 (by omega) hS
   have hS2:St we ρ2 (zAA pa lim L::Row b6 [.string p.name,.slice q0 p.pre0.length c0,.slice q1 p.pre1.length c1,.slice qm ms.length cm] 84::Row b17 [.string p.name,.slice z0 p.pre0.length d0,.slice z1 p.pre1.length d1,.slice zm p.msgs.length dm] 84::Row b12 (nkL nn) 242::Row b9 (ksL k (.slice qk k.psks.length ck)) 86::Row b10 shZ 92::F) _:=hS.pk;clear hS;have hS:=hS2;clear hS2 kN hps hen kE kH h5 hl0 hl1 hlm hmr hp0 kP kQ;refine(Run.regionH_cut (fun a:Nat × Option Addr × Nat=>Row a.1 (shL ⟨z0,p.pre0.length,d0,z1,p.pre1.length,d1,zm,p.msgs.length,dm,a.2.1,k.psks.length,a.2.2⟩ (sh0 role p (zHf nn k) .z)) 92::Vec 3 1 (.slice a.2.1 k.psks.length a.2.2) k.psks.length (k.psks.flatMap intL)::zAA pa lim L::Row b6 [.string p.name,.slice q0 p.pre0.length c0,.slice q1 p.pre1.length c1,.slice qm ms.length cm] 84::Row b17 [.string p.name,.slice z0 p.pre0.length d0,.slice z1 p.pre1.length d1,.slice zm p.msgs.length dm] 84::Row b10 shZ 92::F)
    (fun a=>[(0,pP pa),(3,pI pr),(6,pP b6),(10,pP b10),(17,pP b17),(19,pP a.1)])
    hS (List.Sublist.refl _) (by rfl) (by rfl) (by rfl) ?_ ?_)
   · clear hS
     intro w1 hS;refine RH.relist (listed':=bm 8 0) (by kernel_rfl) ?_;repeat' first|refine Yt 0 0 ?_|refine Yl 1 1 ?_|refine Yl 3 2 ?_|refine Yl 7 3 ?_|refine Yt 31 5 ?_|refine Yt 95 5 ?_|(refine Oc 193 (c:=kK hS) (k':=?_);clear hS;rintro v w1 ⟨kq,rfl,hS⟩;obtain⟨qk2,ck2,rfl⟩:=zAG hS;refine Xh ?_)|(refine Oa ?_;clear hS;intro b w1 hS;refine Xh ?_)|(refine Od ?_;clear hS;intro w1 hS;refine Xh ?_)|refine Jo ?_|refine Zb 15 4 6 ?_ ?_|refine Za 63 6 ?_|refine Za 127 7 ?_|refine Za 79 4 ?_|(refine Yd 255 ?_;exact⟨(b,qk2,ck2),(by exact Sb),hS.pk⟩)
   clear hS;rintro⟨b19,qk2,ck2⟩ w1 hS;simp only at hS ⊢;obtain⟨ρ3,o3,s3,hT⟩:=zAH zAZ (hS.take (A:=Vec 3 1 (.slice qk2 k.psks.length ck2) k.psks.length (k.psks.flatMap intL)) An);clear hS;have hS:=hT;clear hT;obtain⟨r,hrr⟩:∃r:Rep,r=⟨z0,p.pre0.length,d0,z1,p.pre1.length,d1,zm,p.msgs.length,dm,qk2,k.psks.length,ck2⟩:=⟨_,rfl⟩
   rw[← hrr]at hS;have hsh:∀h:Sh,h.p=p→h.psks=k.psks→ShR ρ3 r h:=by
    intro h e1 e2;subst hrr;refine⟨?_,?_⟩
    · rw[e1];exact hp2.mono o3.sub
    · rw[e2];exact s3
   have kB:∀{F w},St we ρ3 (zAA pa lim L::F) w→_:=fun hS=>zI7 (name:=p.name) (pr:=pr) hS
   generalize zBX lim L p.name pr=qb at kB;obtain⟨L1,y1,e1⟩:=qb;simp only at kB;repeat' first|(refine Qv 194 (kB hS.tk) ?_;clear hS;intro w1 hS)|(refine Qm ?_)|apply Qs|apply Qr|apply Qn|refine Ql ?_|(refine Qd ?_;clear hS;intro w1 hS)|apply Qb
   by_cases hb1:e1=0;rotate_left
   · unfold zAu
     rw[if_pos hb1];simp only[zAg,if_neg hb1];repeat' first|refine Run.loop ?_|apply Qs|apply Qr|(apply Rs<;>intro hc<;>try exact No)|apply Qn|refine Ql ?_|(refine Qd ?_;clear hS;intro w1 hS)|refine Qy ?_|refine Qt ?_|refine Qf ?_|refine Qe ?_
     refine Qw Tryz.func147 ?_;exact⟨r,ρ3,rfl,o2.trans o3,fun h=>absurd h hb1,hS.pk⟩
   · subst hb1
     have hmix:zAu lim p role (zHf nn k) (L1,y1,0)=zDe lim p 0 L1 (sh0 role p (zHf nn k) y1):=by
      unfold zAu zDe;simp
     rw[hmix];generalize hZ:zDe lim p 0 L1 (sh0 role p (zHf nn k) y1)=Z;have hS2:St we ρ3 (Row b19 (shL r (sh0 role p (zHf nn k) y1)) 92::zAA pa lim L1::Row b17 [.string p.name,.slice z0 p.pre0.length d0,.slice z1 p.pre1.length d1,.slice zm p.msgs.length dm] 84::Row b10 shZ 92::F) _:=hS.pk;clear hS;refine Run.while (fun x:Nat × List Nd × Sh × Int=>[(0,pP pa),(10,pP b10),(13,pI x.2.2.2),(17,pP b17),(19,pP b19),(20,pI x.1)])
      (fun x w=>x.1≤2∧(x.2.2.2=0∧zDe lim p x.1 x.2.1 x.2.2.1=Z∨x.2.2.2≠0∧Z=(x.2.1,.z,x.2.2.2))∧x.2.2.1.p=p∧x.2.2.1.psks=k.psks ∧
        St we ρ3 (Row b19 (zAg r x.2.2.1 x.2.2.2) 92::zAA pa lim x.2.1::Row b17 [.string p.name,.slice z0 p.pre0.length d0,.slice z1 p.pre1.length d1,.slice zm p.msgs.length dm] 84::Row b10 shZ 92::F) w) (fun x=>2 - x.1)
      (0,L1,sh0 role p (zHf nn k) y1,0) ⟨by simp,.inl ⟨rfl,hZ⟩,rfl,rfl,hS2⟩ (by exact Sb) ?_
     clear hS2 hZ hmix;rintro⟨who,L2,h,e⟩ w ⟨hwho,hrel,hhp,hhk,hS⟩ ih;simp only at hwho hrel hhp hhk hS ih ⊢;by_cases he:e=0;rotate_left
     · obtain⟨-,rfl⟩:e≠0∧Z=(L2,.z,e):=by
        rcases hrel with ⟨h0,-⟩|h0
        · exact absurd h0 he
        · exact h0
       simp only[zAg,if_neg he]at hS ⊢;repeat' first|apply Qs|apply Qr|(apply Rs<;>intro hc<;>try exact No)|apply Qn|refine Ql ?_|(refine Qd ?_;clear hS;intro w1 hS)|refine Qy ?_|refine Qz ?_|refine Qt ?_|refine Qf ?_|refine Qe ?_
       all_goals
        refine Qw Tryz.func147 ?_;exact⟨r,ρ3,rfl,o2.trans o3,fun h=>absurd h he,hS.pk⟩
     · subst he
       obtain hZ:zDe lim p who L2 h=Z:=by
        rcases hrel with ⟨-,h0⟩|⟨h0,-⟩
        · exact h0
        · exact absurd rfl h0
       clear hrel;simp only[zAg,if_true]at hS;by_cases hw2:who=2
       · subst hw2
         have hz2:Z=(L2,h,0):=by rw[← hZ];unfold zDe;simp
         subst hz2;simp only[zAg,if_true];repeat' first|(refine Qm ?_)|apply Qs|apply Qr|(apply Rs<;>intro hc<;>try exact No)|apply Qn|refine Ql ?_|(refine Qd ?_;clear hS;intro w1 hS)|refine Qz ?_|refine Qf ?_|apply Qk|refine Qe ?_
         refine Qw Tryz.func147 ?_;exact⟨r,ρ3,rfl,o2.trans o3,fun _=>hsh h hhp hhk,hS.pk⟩
       · have hw1:who<2:=by omega
         obtain⟨zz,ll,dd,hcell,hsl,hll⟩:∃zz ll dd,([.string p.name,.slice z0 p.pre0.length d0,.slice z1 p.pre1.length d1,.slice zm p.msgs.length dm]:List Value)[1+who]? = some (.slice zz ll.length dd)∧Sl ρ3 intL 1 (.slice zz ll.length dd) ll∧ll=if who=0 then p.pre0 else p.pre1:=by
          have hc:who=0∨who=1:=by omega
          rcases hc with rfl|rfl
          · exact⟨z0,p.pre0,d0,rfl,s0.mono o3.sub,rfl⟩
          · exact⟨z1,p.pre1,d1,rfl,s1.mono o3.sub,rfl⟩
         obtain⟨q,hq⟩:∃q,zAl lim who L2 h ll=q:=⟨_,rfl⟩
         obtain⟨Lq,hq',eq⟩:=q;have hstep:=zL5 lim hw1 hll hq;have hl2:ll.length≤2:=by
          have:=zCN hright;rw[hll];split<;>omega
         rw[hZ]at hstep;repeat' first|(refine Ql ?_ (h:=by apply Still.load;rfl;rfl;(exact Rd.any);exact hcell))|(refine Ql ?_ (h:=Sx))|apply Qs|apply Qr|(apply Rs<;>intro hc<;>try exact No)|apply Qn|refine Ql ?_|refine Qy ?_|refine Qt ?_|apply Qk|apply Qb
         refine Run.while (fun x:Nat × List Nd × Sh × Int=>[(0,pP pa),(10,pP b10),(13,pI x.2.2.2),(17,pP b17),(19,pP b19),(20,pI who),(114,.slice zz ll.length dd),(115,pI ll.length),(116,pI x.1)])
          (fun x w=>x.1≤ll.length∧(x.2.2.2=0∧zAl lim who x.2.1 x.2.2.1 (ll.drop x.1)=(Lq,hq',eq)∨x.2.2.2≠0∧x.2.1=Lq∧x.2.2.2=eq)∧x.2.2.1.p=p∧x.2.2.1.psks=k.psks ∧
            St we ρ3 (Row b19 (zAg r x.2.2.1 x.2.2.2) 92::zAA pa lim x.2.1::Row b17 [.string p.name,.slice z0 p.pre0.length d0,.slice z1 p.pre1.length d1,.slice zm p.msgs.length dm] 84::Row b10 shZ 92::F) w) (fun x=>ll.length - x.1)
          (0,L2,h,0) ⟨by simp,.inl ⟨rfl,by simpa using hq⟩,hhp,hhk,by simp only[zAg,if_true];exact hS.pk⟩ (by exact Sb) ?_
         clear hS hq hhp hhk hZ;rintro⟨i,L3,h3,e3⟩ w ⟨hi,hrel,hhp,hhk,hS⟩ ih2;simp only at hi hrel hhp hhk hS ih2 ⊢;by_cases hlt:i<ll.length
         · obtain⟨b0,o0,cs0,e0,f0,rfl,m0,h0⟩:=hsl.int hlt
           rw[List.drop_eq_getElem_cons hlt]at hrel;generalize ll[i]=y at hrel h0;replace ih2:=fun L h e w h1 h2 h3 h4=>ih2 (i+1,L,h,e) w ⟨by simp only;omega,h1,h2,h3,h4⟩ (by simp only;omega)
           simp only at ih2;by_cases he3:e3=0
           · subst he3
             obtain hq:zAl lim who L3 h3 (y::ll.drop (i+1))=(Lq,hq',eq):=by
              rcases hrel with ⟨-,h0⟩|⟨h0,-⟩
              · exact h0
              · exact absurd rfl h0
             clear hrel;simp only[zAg,if_true]at hS;have hst:=zQ0 lim L3 h3 who y;have kT:∀{F w},St we ρ3 (zAA pa lim L3::F) w→_:=fun hS=>zLb (who:=who) (t:=y) (hsh h3 hhp hhk) hS
             rw[zAl]at hq;generalize zB9 lim L3 h3 who y=a at hq kT hst;obtain⟨L4,h4,e4⟩:=a;simp only at hq kT hst;by_cases he4:e4=0
             · subst he4
               rw[if_pos rfl]at hq;simp only[zAg,if_true]at kT;repeat' first|(refine Ql ?_ (h:=by apply Still.load;rfl;rfl;exact Rd.ro m0;exact h0))|(refine Ql ?_ (h:=by apply Still.loadAgg (m:=17);rfl;rfl;rfl;(exact Rd.any);rfl;rfl))|(refine Qv 195 (kT hS.tk) ?_;clear hS;intro w1 hS)|apply Qs|apply Qr|(apply Rs<;>intro hc<;>try exact No)|apply Qn|refine Ql ?_|(refine Qd ?_;clear hS;intro w1 hS)|refine Qt ?_|apply Qk|apply Qb|apply Qi
               exact Run.weaken (e':=[(0,pP pa),(10,pP b10),(13,pI 0),(17,pP b17),(19,pP b19),(20,pI who),(114,.slice (some ⟨b0,o0,none⟩) ll.length dd),(115,pI ll.length),(116,pI ((i+1:Nat):Int))]) (by exact Sb) (ih2 L4 h4 0 _ (.inl ⟨rfl,hq⟩) (hst.1.trans hhp) (hst.2.trans hhk) (by simp only[zAg,if_true];exact hS.pk))
             · rw[if_neg he4]at hq
               obtain⟨rfl,rfl,rfl⟩:=by simpa only[Prod.mk.injEq]using hq
               simp only[zAg,if_neg he4]at kT;repeat' first|(refine Ql ?_ (h:=by apply Still.load;rfl;rfl;exact Rd.ro m0;exact h0))|(refine Ql ?_ (h:=by apply Still.loadAgg (m:=17);rfl;rfl;rfl;(exact Rd.any);rfl;rfl))|(refine Qv 195 (kT hS.tk) ?_;clear hS;intro w1 hS)|apply Qs|apply Qr|(apply Rs<;>intro hc<;>try exact No)|apply Qn|refine Ql ?_|(refine Qd ?_;clear hS;intro w1 hS)|refine Qt ?_|apply Qk|apply Qb|apply Qi
               exact Run.weaken (e':=[(0,pP pa),(10,pP b10),(13,pI e4),(17,pP b17),(19,pP b19),(20,pI who),(114,.slice (some ⟨b0,o0,none⟩) ll.length dd),(115,pI ll.length),(116,pI ((i+1:Nat):Int))]) (by exact Sb) (ih2 L4 h4 e4 _ (.inr ⟨he4,rfl,rfl⟩) (hst.1.trans hhp) (hst.2.trans hhk) (by simp only[zAg,if_neg he4];exact hS.pk))
           · obtain⟨-,rfl,rfl⟩:e3≠0∧L3=Lq∧e3=eq:=by
              rcases hrel with ⟨h0,-⟩|h0
              · exact absurd h0 he3
              · exact h0
             repeat' first|(refine Ql ?_ (h:=by apply Still.load;rfl;rfl;exact Rd.ro m0;exact h0))|apply Qs|apply Qr|(apply Rs<;>intro hc<;>try exact No)|apply Qn|refine Ql ?_|refine Qt ?_|refine Qf ?_|apply Qk|apply Qb|apply Qi
             exact Run.weaken (e':=[(0,pP pa),(10,pP b10),(13,pI e3),(17,pP b17),(19,pP b19),(20,pI who),(114,.slice (some ⟨b0,o0,none⟩) ll.length dd),(115,pI ll.length),(116,pI ((i+1:Nat):Int))]) (by exact Sb) (ih2 L3 h3 e3 _ (.inr ⟨he3,rfl,rfl⟩) hhp hhk hS.pk)
         · obtain rfl:i=ll.length:=by omega
           rw[List.drop_length,zAl]at hrel;repeat' first|apply Qs|apply Qr|(apply Rs<;>intro hc<;>try exact No)|apply Qn|refine Ql ?_|refine Qf ?_|apply Qi|refine Qe ?_
           refine Run.weaken (e':=[(0,pP pa),(10,pP b10),(13,pI e3),(17,pP b17),(19,pP b19),(20,pI ((who+1:Nat):Int))]) (by exact Sb) (ih (who+1,L3,h3,e3) _ ⟨by simp only;omega,?_,hhp,hhk,hS.pk⟩ (by simp only;omega));simp only;rcases hrel with ⟨h0,h1⟩|⟨h0,rfl,rfl⟩
           · obtain⟨rfl,rfl,rfl⟩:=by simpa only[Prod.mk.injEq]using h1
             exact .inl ⟨h0,by rw[hstep,if_pos rfl]⟩
           · exact .inr ⟨h0,by rw[hstep,if_neg h0]⟩
end
def zPw:Go.Shelf.Ren:=⟨fun|17=>120|15=>167|20=>218|n=>n,fun|9=>9|23=>122|4=>4|3=>3|0=>0|21=>21|n=>n,fun|n=>n⟩
theorem zWS:Go.Proofs.LaysGw.n17 Tryz.prog zPw where
 mixed:=by kernel_rfl
 f15:=Tryz.func167.trans (congrArg some (by kernel_rfl))
 f17:=Tryz.func120.trans (congrArg some (by kernel_rfl))
 f20:=Tryz.func218.trans (congrArg some (by kernel_rfl))
 t0:=Tryz.underlying0
 a0:=Tryz.isAgg0
 z0:=Tryz.sizeOf0
 v0:=Tryz.zeroValue0
 i0:=by kernel_rfl
 t3:=Tryz.underlying3
 a3:=Tryz.isAgg3
 z3:=Tryz.sizeOf3
 v3:=Tryz.zeroValue3
 i3:=by kernel_rfl
 t4:=Tryz.underlying4
 a4:=Tryz.isAgg4
 z4:=Tryz.sizeOf4
 v4:=Tryz.zeroValue4
 i4:=by kernel_rfl
 t9:=Tryz.underlying9
 a9:=Tryz.isAgg9
 z9:=Tryz.sizeOf9
 v9:=Tryz.zeroValue9
 i9:=by kernel_rfl
 t21:=Tryz.underlying21
 a21:=Tryz.isAgg21
 z21:=Tryz.sizeOf21
 v21:=Tryz.zeroValue21
 i21:=by kernel_rfl
 t23:=Tryz.underlying122
 a23:=Tryz.isAgg122
 z23:=Tryz.sizeOf122
 v23:=Tryz.zeroValue122
 i23:=by kernel_rfl
def HP.emp:HP:=⟨fun _ X=>X=[],fun h _=>h⟩
def Each {α:Type}(f : α→HP):List α→HP
 | []=>HP.emp
 | a::l=>HP.star (f a) (Each f l)
section
variable {we w:World}{ρ:List (Nat × Obj)}{F:List HP}{α:Type}{f g : α→HP}
theorem St.emp:St we ρ (HP.emp::F) w↔St we ρ F w:=by
 constructor
 · intro h;exact h.tail
 · rintro⟨hb,⟨X,hs,hn,hr,hρ⟩,hro⟩
   exact⟨hb,⟨X,⟨[],X,rfl,rfl,hs⟩,hn,hr,hρ⟩,hro⟩
theorem zEw:∀{l:List α} {i:Nat} {a : α} {F:List HP},l[i]? = some a→St we ρ (Each f l::F) w→St we ρ (f a::Each f (l.eraseIdx i)::F) w
 | [],i,a,F,h,hS=>by simp at h
 | b::l,0,a,F,h,hS=>by
   obtain rfl:b=a:=by simpa using h
   exact St.star.1 hS
 | b::l,i+1,a,F,h,hS=>by
   have h1:St we ρ (Each f l::f b::F) w:=(St.star.1 hS).take (.tail .head);have h2:=zEw (by simpa using h) h1;have h3:St we ρ (f b::Each f (l.eraseIdx i)::f a::F) w:=h2.pk;have h4:St we ρ (Each f (b::l.eraseIdx i)::f a::F) w:=St.star.2 h3;exact h4.take (.tail .head)
theorem zIu:∀{l:List α} {i:Nat} {a : α} {F:List HP},i<l.length→St we ρ (f a::Each f (l.eraseIdx i)::F) w→St we ρ (Each f (l.set i a)::F) w
 | [],i,a,F,h,hS=>by simp at h
 | b::l,0,a,F,h,hS=>St.star.2 hS
 | b::l,i+1,a,F,h,hS=>by
   have h1:St we ρ (Each f (b::l.eraseIdx i)::f a::F) w:=hS.take (.tail .head);have h2:St we ρ (f b::Each f (l.eraseIdx i)::f a::F) w:=St.star.1 h1;have h3:St we ρ (f a::Each f (l.eraseIdx i)::f b::F) w:=h2.pk;have h4:=zIu (by simpa using h) h3;exact St.star.2 (h4.take (.tail .head))
theorem zHq:∀{l:List α} {a : α} {F:List HP},St we ρ (f a::Each f l::F) w→St we ρ (Each f (l++[a])::F) w
 | [],a,F,hS=>St.star.2 hS
 | b::l,a,F,hS=>by
   have h1:St we ρ (Each f (b::l)::f a::F) w:=hS.take (.tail .head);have h2:St we ρ (f b::Each f l::f a::F) w:=St.star.1 h1;have h3:St we ρ (f a::Each f l::f b::F) w:=h2.pk;have h4:=zHq h3;exact St.star.2 (h4.take (.tail .head))
theorem zK5 (hS:St we ρ F w):St we ρ (Each f []::F) w:=St.emp.2 hS
end
attribute [irreducible] Each HP.emp
end Go.Proofs.YtcikdogkkgefcaaGreatDoor
