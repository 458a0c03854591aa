import Derived.Test.YtifbhcfdealfaaaGreatDoorMd03
set_option maxRecDepth 100000
set_option maxHeartbeats 25600000
namespace Go.Proofs.YtifbhcfdealfaaaGreatDoor
open Go.Proofs.Tryz
open Go.RowKit
theorem VN(w:World)(n t:Nat):Calls prog 303 #[yv n,yv t] w (RowT w (jx n t)):=by
 unfold yv;by_cases hn:n∈ [69,70,71,72,73,74,75,76,77,78,79,80,81]
 ·have hm:n∈ [70,71,72,73,75,76,77,78,79,80]\/(∃k q:Nat,n=69/\k=40/\q=70\/n=74/\k=45/\q=75\/n=81/\k=19/\q=82):=by
   simp only[List.mem_cons,List.not_mem_nil,or_false]at hn⊢;by_cases h1:n=69
   ·exact .inr ⟨40,70,by omega⟩
   by_cases h2:n=74
   ·exact .inr ⟨45,75,by omega⟩
   by_cases h3:n=81
   ·exact .inr ⟨19,82,by omega⟩
   ·exact .inl (by omega)
  clear hn;rcases hm with hn|⟨k,q,h⟩
  ·simp only[List.mem_cons,List.not_mem_nil,or_false]at hn;rcases hn with rfl|rfl|rfl|rfl|rfl|rfl|rfl|rfl|rfl|rfl
   all_goals
    simp only[Int.cast_ofNat_Int];go_enter func303,ntmps303;go_wp2;go_ret;exact RowT.of w _ rfl rfl rfl
  ·by_cases ht:t=k
   ·subst ht;rcases h with⟨rfl,rfl,rfl⟩|⟨rfl,rfl,rfl⟩|⟨rfl,rfl,rfl⟩
    all_goals
     simp only[Int.cast_ofNat_Int];go_enter func303,ntmps303;go_wp2;go_ret;exact RowT.of w _ rfl rfl rfl
   ·have b1:((t:Int)==(k:Int))=false:=jM3 (by omega);have Hy:=G (show jx n t=[q]by rcases h with⟨rfl,rfl,rfl⟩|⟨rfl,rfl,rfl⟩|⟨rfl,rfl,rfl⟩<;>simp[jx,ht]);clear ht;rcases h with⟨rfl,rfl,rfl⟩|⟨rfl,rfl,rfl⟩|⟨rfl,rfl,rfl⟩
    all_goals
     simp only[Int.cast_ofNat_Int]at b1⊢;go_enter func303,ntmps303;go_wp2;go_ret;exact RowT.of w [_] Hy.out rfl rfl
 ·have hm:=hn;simp only[List.mem_cons,List.not_mem_nil,or_false]at hm;have Hy:=G (show jx n t=[]by unfold jx;rw[jJ5 (by omega)];rw[jJ5 (by omega)];rw[jJ5 (by omega)];rw[jJ5 (by omega)];rw[jJ5 (by omega)];rw[jJ5 (by omega)];rw[jJ5 (by omega)];rw[jJ5 (by omega)];rw[jJ5 (by omega)];rw[jJ5 (by omega)];rw[jJ5 (by omega)];rw[jJ5 (by omega)];rw[jJ5 (by omega)]);clear hm;have b69:=kO hn 69;have b70:=kO hn 70;have b71:=kO hn 71;have b72:=kO hn 72;have b73:=kO hn 73;have b74:=kO hn 74;have b75:=kO hn 75;have b76:=kO hn 76;have b77:=kO hn 77;have b78:=kO hn 78;have b79:=kO hn 79;have b80:=kO hn 80;have b81:=kO hn 81;clear hn;go_enter func303,ntmps303;go_wp2;go_ret;exact RowT.none_ w Hy.out
theorem zO(n t:Nat)(h:jE n t=true)(X:List Nat)(e:(if n=58 then vW t
 else if n=59\/n=60 then [t]
 else if n=61\/n=62 then [t,69]
 else if n=63 then [t,1]
 else if n=64\/n=65 then [t,32,69,9]
 else if n=66 then [t,10,60,67]
 else if n=67 then [t,1,10,60,67]
 else if n=68 then(if t=33 then [t,1,9,68]else [t,11,69,9,68])
 else if n=83 then [69,84]
 else if n=84 then [t,69,84]
 else if n=82 then JT t
 else jx n t)=X):jX n t=X:=by
 rw[jX,jJ5 (by rw[h];decide)];exact e
theorem jEO(w:World)(n t:Nat)(hn:n∈ [59,60,61,62,63,64,65,66,67,83,84])(hb:jE n t=true):Calls prog 286 #[yv n,yv t] w (RowT w (jX n t)):=by
 have Hy:=G (zO n t hb _ rfl);have H:=G (kz w n t);rw[hb]at H;clear hb;generalize jX n t=R at*;unfold yv at*;simp only[List.mem_cons,List.not_mem_nil,or_false]at hn;rcases hn with rfl|rfl|rfl|rfl|rfl|rfl|rfl|rfl|rfl|rfl|rfl
 all_goals
  simp only[Int.cast_ofNat_Int]at H⊢;go_enter func286,ntmps286;go_wp2_with (go_at_call 284;refine H.out.mono ?_;rintro e w1 ⟨rfl,rfl⟩);go_ret;exact RowT.of w _ Hy.out rfl rfl
theorem jCe(w:World)(t:Nat)(hb:jE 68 t=true)(ht:t=33):Calls prog 286 #[.int .u8 68,yv t] w (RowT w (jX 68 t)):=by
 have Hy:=G (zO 68 t hb [t,1,9,68] (by show(if t=33 then _ else _)=_;rw[jJ6 ht]));have H:=G (kz w 68 t);have b1:((t:Int)==33)=true:=by simp;omega
 rw[hb]at H;clear hb ht;generalize jX 68 t=R at*;unfold yv at*;go_enter func286,ntmps286;go_wp2_with (go_at_call 284;refine H.out.mono ?_;rintro e w1 ⟨rfl,rfl⟩);go_ret;exact RowT.of w [t,1,9,68] Hy.out rfl rfl
theorem jCd(w:World)(t:Nat)(hb:jE 68 t=true)(ht:¬t=33):Calls prog 286 #[.int .u8 68,yv t] w (RowT w (jX 68 t)):=by
 have Hy:=G (zO 68 t hb [t,11,69,9,68] (by show(if t=33 then _ else _)=_;rw[jJ5 ht]));have H:=G (kz w 68 t);have b1:((t:Int)==33)=false:=by simp;omega
 rw[hb]at H;clear hb ht;generalize jX 68 t=R at*;unfold yv at*;go_enter func286,ntmps286;go_wp2_with (go_at_call 284;refine H.out.mono ?_;rintro e w1 ⟨rfl,rfl⟩);go_ret;exact RowT.of w [t,11,69,9,68] Hy.out rfl rfl
theorem jEP(w:World)(t:Nat)(hb:jE 58 t=true):Calls prog 286 #[.int .u8 58,yv t] w (RowT w (jX 58 t)):=by
 have Hy:=G (zO 58 t hb (vW t) rfl);have H:=G (kz w 58 t);have H2:=G (YT w t);rw[hb]at H;clear hb;generalize jX 58 t=R at*;generalize vW t=l at*;unfold yv at*;go_enter func286,ntmps286;go_wp2_with (first|(go_at_call 284;refine H.out.mono ?_;rintro e w1 ⟨rfl,rfl⟩)|(go_at_call 301;refine H2.out.mono ?_;rintro e w1 ⟨A,c,rfl,GA,Lk,F2⟩));go_ret;exact⟨A,c,by rw[Hy.out];rfl,by rw[Hy.out];exact GA,by rw[Hy.out];exact Lk,F2⟩
theorem jEN(w:World)(t:Nat)(hb:jE 82 t=true):Calls prog 286 #[.int .u8 82,yv t] w (RowT w (jX 82 t)):=by
 have Hy:=G (zO 82 t hb (JT t) rfl);have H:=G (kz w 82 t);have H2:=G (Uh w t);rw[hb]at H;clear hb;generalize jX 82 t=R at*;generalize JT t=l at*;unfold yv at*;go_enter func286,ntmps286;go_wp2_with (first|(go_at_call 284;refine H.out.mono ?_;rintro e w1 ⟨rfl,rfl⟩)|(go_at_call 302;refine H2.out.mono ?_;rintro e w1 ⟨A,c,rfl,GA,Lk,F2⟩));go_ret;exact⟨A,c,by rw[Hy.out];rfl,by rw[Hy.out];exact GA,by rw[Hy.out];exact Lk,F2⟩
theorem jAK(w:World)(n t:Nat):Calls prog 286 #[yv n,yv t] w (RowT w (jX n t)):=by
 by_cases hb:jE n t=true
 case neg=>
  rw[Bool.not_eq_true]at hb;have Hy:=G (show jX n t=[]by rw[jX,jJ6 hb]);have H:=G (kz w n t);rw[hb]at H;clear hb;generalize jX n t=R at*;unfold yv at*;go_enter func286,ntmps286;go_wp2_with (go_at_call 284;refine H.out.mono ?_;rintro e w1 ⟨rfl,rfl⟩);go_ret;exact RowT.none_ w Hy.out
 by_cases h1:n∈ [59,60,61,62,63,64,65,66,67,83,84]
 ·exact jEO w n t h1 hb
 by_cases Fx:n=58
 ·subst Fx;exact jEP w t hb
 by_cases h68:n=68
 ·subst h68;by_cases ht:t=33
  ·exact jCe w t hb ht
  ·exact jCd w t hb ht
 by_cases h82:n=82
 ·subst h82;exact jEN w t hb
 have hn:n∉ [58,59,60,61,62,63,64,65,66,67,68,82,83,84]:=by
  simp only[List.mem_cons,List.not_mem_nil,or_false]at h1⊢;omega
 simp only[List.mem_cons,List.not_mem_nil,or_false]at h1;have Hy:=G (zO n t hb (jx n t) (by rw[jJ5 (by omega)];rw[jJ5 (by omega)];rw[jJ5 (by omega)];rw[jJ5 (by omega)];rw[jJ5 (by omega)];rw[jJ5 (by omega)];rw[jJ5 (by omega)];rw[jJ5 (by omega)];rw[jJ5 (by omega)];rw[jJ5 (by omega)];rw[jJ5 (by omega)]));have H:=G (kz w n t);have H2:=G (VN w n t);rw[hb]at H;clear hb;generalize jX n t=R at*;generalize jx n t=l at*;have b58:=kO hn 58;have b59:=kO hn 59;have b60:=kO hn 60;have b61:=kO hn 61;have b62:=kO hn 62;have b63:=kO hn 63;have b64:=kO hn 64;have b65:=kO hn 65;have b66:=kO hn 66;have b67:=kO hn 67;have b68:=kO hn 68;have b82:=kO hn 82;have b83:=kO hn 83;have b84:=kO hn 84;clear h1 Fx h68 h82 hn;unfold yv at*;go_enter func286,ntmps286;go_wp2_with (first|(go_at_call 284;refine H.out.mono ?_;rintro e w1 ⟨rfl,rfl⟩)|(go_at_call 303;refine H2.out.mono ?_;rintro e w1 ⟨A,c,rfl,GA,Lk,F2⟩));go_ret;exact⟨A,c,by rw[Hy.out];rfl,by rw[Hy.out];exact GA,by rw[Hy.out];exact Lk,F2⟩
theorem jAc(t:Nat)(st:List Nat)(j:Nat)(hj:j<st.length):jz t (st.drop j)=if jE (st.getD j 0) t=true then true else if vw (st.getD j 0)=true then jz t (st.drop (j+1))else false:=by
 rw[jM9 hj,jz];simp only[List.getD,jJ9 hj,Option.getD_some]
theorem Stk.most{w:World}{st:List Nat}{A:OA}{c:Nat}(h:Stk w st A c):st.length<=9223372036854775807:=by
 rcases h.2 with⟨_,h0⟩|⟨g,cap,cur,_,_,_,h1,h2,_⟩
 ·omega
 ·unfold maxLen at h2;omega
theorem Jh(w:World)(g:Nat)(r:Option Nat)(src:BA)(m:Mc)(A:OA)(c:Nat)(h:Mac w g r src m A c)(t:Nat):
  Calls prog 251 #[.pointer (some ⟨g,0,none⟩),yv t] w fun e w' =>e=.returned (.bool (jz t m.stack))/\w=w' :=by
 have F9:=G h.own;have Fm:=h.blk.at_ 2 rfl;have C9:=G h.sym;have Dg:=h.own.most;clear h;generalize m.stack=st at*;have HR:=G (show jz t st=jz t (st.drop (st.length-st.length))by rw[Nat.sub_self,List.drop_zero]);have Ss:=G (jAc t st);generalize hL:st.length=L at*;have HL:=G hL;clear hL;generalize jz t st=R at*;have ew:IntKind.i64.wrap ((L:Int)-1)=(L:Int)-1:=jQ3 _ (by omega);go_enter func251,ntmps251;go_wp2;go_loop [5] (fun i=>∃p:Nat,p<=L/\i=.int .i64 ((p:Int)-1)/\R=jz t (st.drop (L-p))) (fun i=>(intOf i+1).toNat)
 case atStart=>exact⟨L,jL3 _,rfl,HR.out⟩
 case round=>
  obtain⟨p,hp,rfl,hR⟩:=hrel;by_cases h0:0<p
  ·obtain⟨q,rfl⟩:∃q,p=q+1:=⟨p-1,by omega⟩;have hlt:q<L:=(by omega);obtain⟨b,o,rfl,Ff⟩:=F9.out.at_ (L-1-q) (by rw[HL.out];omega);rw[HL.out,show L-1-(L-1-q)=q by omega]at Ff;have hd:=Ss.out (L-1-q) (by omega);rw[show L-1-q+1=L-q by omega]at hd;rw[show L-(q+1)=L-1-q by omega,hd]at hR;clear hd;have T7:st.getD (L-1-q) 0<85:=C9.out _ (by
    have:L-1-q<st.length:=by rw[HL.out];omega
    simp[List.getD,List.getElem?_eq_getElem this])
   generalize st.getD (L-1-q) 0=n at*;rw[show((q+1:Nat):Int)-1=(q:Int)by omega];have B:=G (kz w n t);have Em:=G (UP w n);have Ws:=G hR;clear hR;generalize FF:jE n t=bb at*;generalize SR:vw n=ee at*;clear FF SR;have b1:(0:Int)<=(q:Int):=(by omega);have b2:(q:Int)<(L:Int):=(by omega);have b3:(q:Int).toNat=q:=(by omega);have b4:IntKind.i64.wrap ((q:Int)-1)=(q:Int)-1:=jQ3 _ (by omega);unfold yv at*;cases bb
   ·cases ee
    ·have HF:=G (show R=false by have:=Ws.out;simpa using this);go_wp2_with (first|(go_at_call 284;refine B.out.mono ?_;rintro e w1 ⟨rfl,rfl⟩)|(go_at_call 285;refine Em.out.mono ?_;rintro e w1 ⟨rfl,rfl⟩));go_ret;exact⟨by rw[HF.out];rfl,rfl⟩
    ·have HF:=G (show R=jz t (st.drop (L-q))by have:=Ws.out;simpa using this);go_wp2_with (first|(go_at_call 284;refine B.out.mono ?_;rintro e w1 ⟨rfl,rfl⟩)|(go_at_call 285;refine Em.out.mono ?_;rintro e w1 ⟨rfl,rfl⟩));go_round
     case rel=>exact⟨q,by omega,by go_num,HF.out⟩
     case measure=>simp[intOf]
   ·have HF:=G (show R=true by have:=Ws.out;simpa using this);go_wp2_with (first|(go_at_call 284;refine B.out.mono ?_;rintro e w1 ⟨rfl,rfl⟩)|(go_at_call 285;refine Em.out.mono ?_;rintro e w1 ⟨rfl,rfl⟩));go_ret;exact⟨by rw[HF.out];rfl,rfl⟩
  ·obtain rfl:p=0:=(by omega);have HF:=G (show R=false by rw[hR,Nat.sub_zero,<-HL.out,List.drop_length];rfl);clear hR;go_wp2;go_ret;exact⟨by rw[HF.out];rfl,rfl⟩
inductive Takes (t:Nat):Nat->List Nat->List Nat->Prop
 |hit (l:List Nat):Takes t 1 (t::l) l
 |more (n x:Nat) (l k:List Nat):x≠t->Takes t n (jX x t++l) k->Takes t (n+1) (x::l) k
theorem Takes.uniq{t:Nat}{n:Nat}{l k:List Nat}(h:Takes t n l k):∀{n' :Nat} {k' :List Nat},Takes t n' l k' ->n=n' /\k=k' :=by
 induction h with
 |hit l=>
  intro n' k' h';cases h' with
  |hit _=>exact⟨rfl,rfl⟩
  |more _ _ _ _ Fe _=>exact absurd rfl Fe
 |more n x l k Fe _ ih=>
  intro n' k' h';cases h' with
  |hit _=>exact absurd rfl Fe
  |more _ _ _ _ _ h2=>
   obtain⟨rfl,rfl⟩:=ih h2;exact⟨rfl,rfl⟩
theorem Vr{t:Nat}:∀{f:Nat} {l k:List Nat},kB t f l=some k->∃n,n<=f/\Takes t n l k
 |0,l,k,h=>by cases h
 |f+1,[],k,h=>by cases h
 |f+1,x::l,k,h=>by
  rw[kB]at h;split at h
  ·rename_i hx;subst hx;obtain rfl:=jL5 h;exact⟨1,by omega,.hit l⟩
  ·rename_i hx;obtain⟨n,hn,h2⟩:=Vr h;exact⟨n+1,by omega,.more n x l k hx h2⟩
noncomputable def tkMeas (t g:Nat) (w:World):Nat:=Classical.epsilon fun n=>∃r src m A c k,Mac w g r src m A c/\Takes t n m.stack k
theorem Yi{t g:Nat}{w:World}{r:Option Nat}{src:BA}{m:Mc}{A:OA}{c n:Nat}{k:List Nat}(h:Mac w g r src m A c)(ht:Takes t n m.stack k):tkMeas t g w=n:=by
 obtain⟨r',src',m',A',c',k',h',Ad⟩:=Classical.epsilon_spec (p:=fun n=>∃r src m A c k,Mac w g r src m A c/\Takes t n m.stack k) ⟨n,r,src,m,A,c,k,h,ht⟩;rw[h.uniq h']at ht;exact(Ad.uniq ht).1
def Fit(l:List Nat):Prop:=l.length<=11/\∀x∈l,x<85
theorem Fit.ite{c:Prop}[Decidable c]{a b:List Nat}(ha:Fit a)(hb:Fit b):Fit (if c then a else b):=by
 split
 ·exact ha
 ·exact hb
theorem Fit.of(l:List Nat)(h:(decide (l.length<=11)&&l.all (fun x=>decide (x<85)))=true):Fit l:=by
 rw[Bool.and_eq_true,List.all_eq_true]at h;exact⟨jM8 h.1,fun x hx=>jM8 (h.2 x hx)⟩
theorem Fit.cons{t:Nat}{l:List Nat}(ht:t<85)(h:l.length<=10)(h2:Fit l):Fit (t::l):=⟨by rw[jK6];omega,fun x hx=>by
 rcases jN4 hx with rfl|hx
 ·exact ht
 ·exact h2.2 x hx⟩
theorem Kh(n t:Nat)(ht:t<85):Fit (jX n t):=by
 unfold jX vW JT jx
 repeat' first|apply Fit.ite|exact Fit.of _ (by decide)|exact Fit.cons ht (by decide) (Fit.of _ (by decide))
theorem jEM(n t:Nat)(ht:t<85):(jX n t).length<=11:=(Kh n t ht).1
theorem jEL(n t:Nat)(ht:t<85):∀x∈jX n t,x<85:=(Kh n t ht).2
theorem Av.mx{w:World}{g n size:Nat}{r r' :Option Nat}{A:OA}{xs:List Value}(ha:Av (MX g r) n A)(hf:MFr w r r')(hr:Rd w size A n xs)(hs:0<size):Av (MX g r') n A:=by
 intro hn ad e hx;rcases hx with hx|hx
 ·exact ha hn ad e (.inl hx)
 ·rcases hf with rfl|⟨k,rfl,Gx⟩
  ·exact ha hn ad e (.inr hx)
  ·injection hx with hx;have:=hr.lt hs hn e;omega
theorem Qc:∀w,(sizeOf (prog.elem 199)).run prog w=.ok 1 w:=fun _=>by kernel_rfl
structure Lay(w:World)(g:Nat)(r:Option Nat)(src:BA)(m:Mc)(R:List Nat)(B:OA)(rest:List Nat)(p:Nat)(wr:World)(r2:Option Nat)(A2:OA)(c2:Nat):Prop where
 mac:Mac wr g r2 src {m with stack:=R.drop p++rest} A2 c2
 kp:Kp (MX g r) w wr
 fr:MFr w r r2
 rd:Rd wr 1 B R.length (R.map yv)
 av:Av (MX g r2) R.length B
theorem Lay.next{w wr wx w1:World}{g:Nat}{r r2:Option Nat}{src:BA}{m:Mc}{R rest:List Nat}{B A2 A' :OA}{c2 c' q k:Nat}(h:Lay w g r src m R B rest (q+1) wr r2 A2 c2)(hq:q<R.length)(hk:(R.drop (q+1)++rest).length=k)(hx:Old wr wx)
  (h5:R.getD q 0<85)
  (hI:w1.ownsRow 8 203 1 (.slice A' (k+1) c') (k+1) ((R.drop (q+1)++rest).reverse.map yv++[yv (R.getD q 0)])) (hg:wx.grownBy w1 (Value.slice A2 k c2).ownBlock)
  (F1:A'.map (·.block)=(Value.slice A2 k c2).ownBlock\/A'.map (·.block)=some wx.heap.size):
  ∃r3 A3 c3,Lay w g r src m R B rest q (w1.setCell ⟨g,2,none⟩ (.slice A' (k+1) c')) r3 A3 c3:=by
 obtain⟨r3,A3,c3,hM,Ga,G0⟩:=h.mac.put hk hx h5 hI hg F1;refine⟨r3,A3,c3,?_,h.kp.trans Ga (MX.trans h.fr),h.fr.trans h.kp.size G0,h.rd.kp Ga h.av,h.av.mx G0 h.rd (by decide)⟩;have e:R.drop q=R.getD q 0::R.drop (q+1):=by
  rw[jM9 hq];simp[List.getD,List.getElem?_eq_getElem hq]
 rw[e];exact hM
theorem yW(w:World)(g:Nat)(r:Option Nat)(src:BA)(m:Mc)(A:OA)(c:Nat)(h:Mac w g r src m A c)(t n0:Nat)(k:List Nat)(ht:t<58)(hT:Takes t n0 m.stack k)(hb:m.stack.length+11*n0<=100000000):
  Calls prog 252 #[.pointer (some ⟨g,0,none⟩),yv t] w fun e w' =>e=.returned (.tuple #[])/\MStep w g r w' src {m with stack:=k}:=by
 obtain⟨i0,hi,FJ,Gw,GQ⟩:=info_parts jDR;have E7:=G (show∃n st,Takes t n st k/\MStep w g r w src {m with stack:=st}/\st.length+11*n<=100000000 from⟨n0,m.stack,hT,h.step,hb⟩);clear h hT hb;unfold yv;go_enter func252,ntmps252;go_wp2;go_loopw [] (fun wr=>∃n st,Takes t n st k/\MStep w g r wr src {m with stack:=st}/\st.length+11*n<=100000000) (fun wr=>tkMeas t g wr)
 case atStart=>exact E7.out
 case round=>
  clear E7;obtain⟨n,st,hT,⟨r1,A,c,hM,Ga,G0⟩,hb⟩:=hrel;have MZ:=G (Yi hM hT);cases hT with
  |hit _=>
   have Fm:=hM.c2;have MJ:=hM.z 2;obtain⟨b,o,rfl,Ff⟩:=hM.own.at_ 0 (by simp);simp only[jK6,List.getD_cons_zero]at Fm Ff hb;rw[show k.length+1-1-0=k.length by omega]at Ff;have FQ:=G (hM.setPop (n:=t) (st:=k) rfl);have MM:=Stk.cap (n:=t) (st:=k) hM.own;have hcut:=fun w' =>jBK (P:=prog) (t:=199) underlying199 Qc (some ⟨b,o,none⟩) (k.length+1) c k.length .i64 (k.length:Int) rfl MM w';have Fl:=G Ga;have G3:=G G0;clear hM Ga G0 MZ;generalize k.length=L at*;have ew:IntKind.i64.wrap (L:Int)=(L:Int):=jQ3 _ (by omega);have b1:(0:Int)<=(L:Int):=(by omega);have b2:(L:Int).toNat=L:=(by omega);unfold yv at*;have b3:((t:Int)==(t:Int))=true:=(by simp);go_wp2;refine bodyPost_ret (results_none rfl _ _ _) rfl ?_;exact⟨rfl,MStep.trans Fl.out G3.out ⟨_,_,_,FQ.out.1,FQ.out.2,.inl rfl⟩⟩
  |more n x l _ Fe hT=>
   have Fm:=hM.c2;have MJ:=hM.z 2;have D3:x<85:=hM.sym x List.mem_cons_self;obtain⟨b,o,rfl,Ff⟩:=hM.own.at_ 0 (by simp);simp only[jK6,List.getD_cons_zero]at Fm Ff hb;rw[show l.length+1-1-0=l.length by omega]at Ff;have MM:=Stk.cap (n:=x) (st:=l) hM.own;have hcut:=fun w' =>jBK (P:=prog) (t:=199) underlying199 Qc (some ⟨b,o,none⟩) (l.length+1) c l.length .i64 (l.length:Int) rfl MM w';have FQ:=G (hM.setPop (n:=x) (st:=l) rfl);have F8:=G (show g<wr.heap.size/\∀k,r1=some k->k<wr.heap.size from⟨hM.blk.lt,fun k hk=>(hM.lt k hk).2⟩);have Fi:=G hT;have Fl:=G Ga;have G3:=G G0;have Ph:=G (Kh x t (by omega));have Hb:=G hb;have Ls:=G (fun W=>jAK W x t);clear hM Ga G0 hT;generalize hL:l.length=L at*;have HL:=G hL;clear hL;have ew:IntKind.i64.wrap (L:Int)=(L:Int):=jQ3 _ (by omega);have b1:(0:Int)<=(L:Int):=(by omega);have b2:(L:Int).toNat=L:=(by omega);have b3:((x:Int)==(t:Int))=false:=jM3 (by omega);clear hb Fe;unfold yv at*;go_wp2_with ((go_at_call 286);refine(Ls.out _).mono ?_;rintro e w1 ⟨B,cB,rfl,GA,Lk,F2⟩);have Ef:=G (show Lay w g r src m (jX x t) B l (jX x t).length w1 r1 (some ⟨b,o,none⟩) c from by
    obtain⟨hM,hk⟩:=FQ.out;refine⟨?_,(Fl.out.trans hk (MX.trans G3.out)).old F2,G3.out,GA,fun hn ad e hx=>Lk hn ad e ?_⟩
    ·rw[List.drop_length,jN8];exact hM.old F2
    ·rw[show(wr.setCell ⟨g,2,none⟩ (.slice (some ⟨b,o,none⟩) L c)).heap.size=wr.heap.size by simp[World.setCell]];rcases hx with hx|hx
     ·rw[hx];exact F8.out.1
     ·exact F8.out.2 _ hx.symm)
   clear GA Lk F2 FQ Fl G3 F8 Ls hcut Fm MJ Ff MM;generalize hR:jX x t=R at*;clear hR;generalize hN:R.length=N at*;have HN:=G hN;clear hN;have AY:N<=11:=by have:=Ph.out.1;have:=HN.out;omega
   have ew2:IntKind.i64.wrap ((N:Int)-1)=(N:Int)-1:=jQ3 _ (by omega);clear ew b1 b2 b3;go_wp2;go_loopw [7] (fun i wr2=>∃p:Nat,p<=N/\i=.int .i64 ((p:Int)-1)/\∃r2 A2 c2,Lay w g r src m R B l p wr2 r2 A2 c2) (fun i _=>(intOf i+1).toNat)
   case atStart=>exact⟨N,jL3 _,by rw[<-IntWalk.i64_left,ew2],_,_,_,Ef.out⟩
   case round=>
    clear Ef;obtain⟨p,hp,rfl,r2,A2,c2,Gf⟩:=hrel;by_cases h0:0<p
    ·obtain⟨q,rfl⟩:∃q,p=q+1:=⟨p-1,by omega⟩;have hlt:q<N:=(by omega);have Fm:=Gf.mac.c2;have FU:=Gf.mac.z 2;have Gq:=Gf.mac.blk.lt;have h8:7<=wr.heap.size:=by have:=Gf.mac.low;omega
     have Fe:some g≠(Value.slice A2 (R.drop (q+1)++l).length c2).ownBlock:=by
      rw[jA,Gf.mac.row];exact fun e=>Gf.mac.ne e.symm
     obtain⟨b,o,u,hB,hu,Ff⟩:=Gf.rd.at_ (k:=q) (by rw[HN.out];exact hlt);have RW:=Gf.rd;subst hB;rw[jM1,jJ9 (by rw[HN.out];exact hlt)]at hu;simp only[Option.map_some,Option.some.injEq]at hu;subst hu;have N7:R[q]'(by rw[HN.out];exact hlt)=R.getD q 0:=(by simp[List.getD,List.getElem?_eq_getElem (show q<R.length by rw[HN.out];exact hlt)]);rw[N7]at Ff;have h5:R.getD q 0<85:=Ph.out.2 _ (by rw[<-N7];exact jL6 _);have hI:=Gf.mac.own;unfold Stk at hI;have hlen:(R.drop (q+1)++l).length<=100000011:=by
      have:=HL.out;have:=Hb.out;have:=Ph.out.1;rw[jJ4,jK8];omega
     have Ck:=G (fun(wx w3:World) (A' :OA) (c' :Nat)=>Lay.next (wx:=wx) (w1:=w3) (A' :=A') (c' :=c') Gf (by rw[HN.out];exact hlt) rfl);simp only at Fm hI;clear Gf RW N7;generalize hS:(R.drop (q+1)++l)=S at*;clear hS;generalize hK:S.length=K at*;generalize R.getD q 0=y at*;have FM:=G (show K+1<=maxLen by unfold maxLen;omega);have FN:=G (show(K+1)*1<=140737488355328 by omega);rw[show((q+1:Nat):Int)-1=(q:Int)by omega];have b1:(0:Int)<=(q:Int):=(by omega);have b2:(q:Int).toNat=q:=(by omega);have b3:(q:Int)<(N:Int):=(by omega);have b4:IntKind.i64.wrap ((q:Int)-1)=(q:Int)-1:=jQ3 _ (by omega);unfold yv at*;go_wp2;go_region_law ((refine jl _ rfl (.tmp 47) (.tmp 52) 199 rfl 8 203 i0 (.int .u8 0) 1 1 underlying199 hi FJ Gw GQ rfl (by decide) (.slice A2 K c2) K (S.reverse.map yv) rfl (hI.alloc _) (some ⟨wr.heap.size,0,none⟩) 1 1 _ rfl (Rd.one_new _ _ _) (kI _ rfl) FM.out FN.out (by simp;omega) ?_;intro A' c' w3 Ft hgrow F1;have FI:=hgrow.cell (a:=⟨g,2,none⟩) (v:=.slice A2 K c2) (by simp[Fm,World.cell?_alloc_lt,Gq]) Fe;have Fv:w3.frozen? ⟨g,2,none⟩=false:=(World.frozen?_of_block (hgrow.block g (by simp;omega) Fe)).trans (by simp[FU,World.frozen?_alloc_past,Gq])))
     all_goals
      have Fi:=G (Ck.out _ _ _ _ ((jQ0 _ _).alloc _).drew h5 Ft hgrow F1);clear Ft hgrow F1 FI Fv hI Fm FU Ff Fe;go_wp2;go_roundw
      case rel=>exact⟨q,by omega,by go_num,Fi.out⟩
      case measure=>simp[intOf]
    ·obtain rfl:p=0:=(by omega);have Cb:=G Fi.out;have hM:=Gf.mac;have SZ:=hM;simp only[List.drop_zero]at SZ;have Td:=G (Yi SZ Fi.out);have Cg:=G (show∃n st,Takes t n st k/\MStep w g r wr src {m with stack:=st}/\st.length+11*n<=100000000 from⟨n,R++l,Fi.out,⟨r2,A2,c2,SZ,Gf.kp,Gf.fr⟩,by
      have:=HL.out;have:=Hb.out;have:=HN.out;rw[jJ4];omega⟩)
     clear hM SZ Gf Cb;go_wp2;go_roundw
     case rel=>exact Cg.out
     case measure=>show tkMeas t g _ <tkMeas t g _;rw[Td.out,MZ.out];omega
def atOf(g:Nat)(w:World):Nat:=(intOf ((w.cell? ⟨g,1,none⟩).getD undef)).toNat
section
variable{w w1 w2:World}{g:Nat}{r:Option Nat}{src:BA}{m:Mc}{A:OA}{c:Nat}
theorem Mac.atOf(h:Mac w g r src m A c):atOf g w=m.at_:=by
 unfold Go.Proofs.YtifbhcfdealfaaaGreatDoor.atOf;rw[h.c1];simp[intOf]
theorem Mac.drewN(h:Mac w g r src m A c)(n:Nat):Mac (w.drewN n) g r src m A c:=h.old ((jQ0 _ _).drewN n)
end
theorem jAA(p:UInt8->Bool):∀(l:LB) (k:Nat),k<(l.takeWhile p).length->∃c,l[k]? =some c/\p c=true
 |[],k,h=>by simp at h
 |a::l,k,h=>by
  rw[List.takeWhile_cons]at h;split at h
  ·rename_i hp;cases k with
   |zero=>exact⟨a,rfl,hp⟩
   |succ k=>
    rw[jK6]at h;exact jAA p l k (by omega)
  ·simp at h
theorem qz(p:UInt8->Bool):∀(l:LB),(l.takeWhile p).length<l.length->∃c,l[(l.takeWhile p).length]? =some c/\p c=false
 |[],h=>by simp at h
 |a::l,h=>by
  rw[List.takeWhile_cons]at h⊢;split at h
  ·rename_i hp;rw[jJ6 hp];rw[jK6,jK6]at h;obtain⟨c,h1,h2⟩:=qz p l (by omega);exact⟨c,by rw[jK6,List.getElem?_cons_succ];exact h1,h2⟩
  ·rename_i hp;rw[jJ5 hp];exact⟨a,rfl,by simpa using hp⟩
theorem Jl(s:BA)(a k:Nat)(c:UInt8)(h:((sb s).drop a)[k]? =some c):∃hlt:a+k<s.size,s[a+k]=c:=by
 rw[List.getElem?_drop]at h;obtain⟨h1,h2⟩:=jM5 h;rw[jB]at h1;exact⟨h1,h2⟩
theorem qj(w:World)(g:Nat)(r:Option Nat)(src:BA)(m:Mc)(A:OA)(c:Nat)(h:Mac w g r src m A c)(hs:src.size<=1000000)(ha:m.at_ <=src.size):
  Calls prog 204 #[.pointer (some ⟨g,0,none⟩)] w fun e w' =>e=.returned (.tuple #[])/\∃m',vS m ((sb src).drop m.at_)=.ok m' /\MStep w g r w' src m' :=by
 have hl:((sb src).drop m.at_).length=src.size-m.at_:=(by rw[jK8,jB]);have hT:=jAA (fun c=> !lfC c) ((sb src).drop m.at_);have hE:=qz (fun c=> !lfC c) ((sb src).drop m.at_);have DH:(((sb src).drop m.at_).takeWhile (fun c=> !lfC c)).length<=src.size-m.at_:=by rw[<-hl];exact kt _ _
 have Fc:=G (show vS m ((sb src).drop m.at_)=.ok (if(((sb src).drop m.at_).takeWhile (fun c=> !lfC c)).length=src.size-m.at_ then{m with at_:=src.size,fin:=1}else{m with at_:=m.at_ +(((sb src).drop m.at_).takeWhile (fun c=> !lfC c)).length})by
  unfold vS;rw[hl,show m.at_ +(src.size-m.at_)=src.size by omega])
 generalize hTT:(((sb src).drop m.at_).takeWhile (fun c=> !lfC c)).length=T at*;clear hTT;generalize vS m ((sb src).drop m.at_)=R at*;have HT:=G (fun k (hk:k<T)=>Jl src m.at_ k _ (hT k hk).choose_spec.1);have V4:=G (fun k (hk:k<T)=>(hT k hk).choose_spec.2);have HE:=G hE;have Hl:=G hl;have H0:=G h;clear hE hl h;go_enter func204,ntmps204;go_wp2;go_loopw [] (fun wr=>∃k A c r',k<=T/\Mac wr g r' src {m with at_:=m.at_ +k} A c/\Kp (MX g r) w wr/\MFr w r r') (fun wr=>src.size-atOf g wr)
 case atStart=>exact⟨0,A,c,r,Nat.zero_le _,H0.out,jQ0 _ _,.inl rfl⟩
 case round=>
  obtain⟨k,A,c,r',hk,hM,Ga,G0⟩:=hrel;have MZ:=G hM.atOf;have GT:=hM.c0;have FI:=hM.c1;have Fq:=hM.c3;have Fv:=hM.z 1;have Ww:=hM.z 3;simp only at GT FI Fq;by_cases hlt:k<T
  ·obtain⟨Fz,RO⟩:=HT.out k hlt;have Pz:=V4.out k hlt;rw[<-RO]at Pz;clear RO;have b5:((src[m.at_ +k].toNat:Int) !=10)=true:=bne_iff_ne.2 (fun e=>by
    have:lfC src[m.at_ +k]=true:=jK5 (by omega);rw[this]at Pz;cases Pz)
   clear Pz hT HT V4 HE;have FB:=G (fun n=>(hM.drewN n).setAt (m.at_ +(k+1)));have Fl:=G Ga;have G3:=G G0;clear hM Ga G0;generalize hp:m.at_ +k=p at*;have b1:(p:Int)<(src.size:Int):=(by omega);have b2:(0:Int)<=(p:Int):=(by omega);have b3:(p:Int).toNat=p:=(by omega);have b4:IntKind.i64.wrap ((p:Int)+1)=(p:Int)+1:=jQ3 _ (by omega);go_wp2;go_quiet (fail);go_wp2;obtain⟨hM,Fu⟩:=FB.out nq;rw[show((m.at_ +(k+1):Nat):Int)=(p:Int)+1 by omega]at hM Fu;exact⟨⟨k+1,A,c,r',by omega,hM,(Fl.out.drewN nq).trans Fu (MX.trans G3.out),G3.out⟩,by rw[hM.atOf,MZ.out];simp only;omega⟩
  ·obtain rfl:k=T:=(by omega);have PD:=Fc.out;clear hT HT V4;by_cases Fw:k=src.size-m.at_
   ·rw[jJ6 Fw]at PD;have HR:=G PD;have FB:=G (fun n=>(hM.drewN n).setFin 1);have Fl:=G Ga;have G3:=G G0;clear hM Ga G0 Fc PD HE;have hp:m.at_ +k=src.size:=(by omega);rw[hp]at FI;have b1:¬(src.size:Int)<(src.size:Int):=(by omega);have b2:((src.size:Int)==(src.size:Int))=true:=(by simp);have Hp:=G hp;clear hp Fw;go_wp2;go_quiet (fail);go_wp2;go_quiet (fail);go_wp2;go_end0;obtain⟨hM,Fu⟩:=FB.out _;refine⟨rfl,_,HR.out,r',A,c,?_,(Fl.out.drewN _).trans Fu (MX.trans G3.out),G3.out⟩;have:=Hp.out;simp only[this]at hM;exact hM
   ·rw[jJ5 Fw]at PD;have HR:=G PD;obtain⟨ch,h1,h2⟩:=HE.out (by rw[Hl.out];omega);obtain⟨Fz,RO⟩:=Jl src m.at_ k ch h1;rw[<-RO]at h2;have b5:((src[m.at_ +k].toNat:Int) !=10)=false:=by
     have:lfC src[m.at_ +k]=true:=(by simpa using h2);have:=jM8 this;rw[this];rfl
    have Pg:=G (fun n n2=>(hM.drewN n).drewN n2);have Fl:=G Ga;have G3:=G G0;clear hM Ga G0 Fc PD HE h1 h2 RO;generalize hp:m.at_ +k=p at*;have b1:(p:Int)<(src.size:Int):=(by omega);have b2:(0:Int)<=(p:Int):=(by omega);have b3:(p:Int).toNat=p:=(by omega);have b6:((p:Int)==(src.size:Int))=false:=jM3 (by omega);go_wp2;go_quiet (fail);go_wp2;go_quiet (fail);go_wp2;go_end0;exact⟨rfl,_,HR.out,r',A,c,Pg.out _ _,(Fl.out.drewN _).drewN _,G3.out⟩
def KO(k:Nat):List PanicEntry:=[{v:=.iface 242 (.int .i64 (k:Int)),recovered:=false}]
def MOut(w:World)(g:Nat)(r:Option Nat)(src:BA)(o:Out)(e:Ending)(w' :World):Prop:=
 match o with
 | .ok m' =>e=.returned (.tuple #[])/\MStep w g r w' src m'
 | .error k=>e=.panicked (KO k)/\Kp (MX g r) w w'
def zo(y:Nat):Option Nat:=if y=120 then some 6 else if y=34\/y=92\/y=110\/y=116 then some 4 else none
def jFG(k:Nat)(o:Option Nat)(e:Ending):Prop:=match o with
 |some x=>e=.returned (.int .u8 (x:Int))
 |none=>e=.panicked (KO k)
theorem Vo(w:World)(y k:Nat):Calls prog 253 #[.int .u8 (y:Int),.int .i64 (k:Int)] w fun e w' =>w=w' /\jFG k (zo y) e:=by
 have Hy:=G (show zo y=if y=120 then some 6 else if y=34\/y=92\/y=110\/y=116 then some 4 else none from rfl);generalize zo y=R at*;by_cases h120:y=120
 ·have Hr:=G (show R=some 6 by rw[Hy.out,h120];rfl);subst h120;clear Hy;go_enter func253,ntmps253;go_wp2;go_ret;rw[Hr.out];exact⟨rfl,rfl⟩
 by_cases h34:y=34
 ·have Hr:=G (show R=some 4 by rw[Hy.out,h34];rfl);subst h34;clear Hy;go_enter func253,ntmps253;go_wp2;go_ret;rw[Hr.out];exact⟨rfl,rfl⟩
 by_cases h92:y=92
 ·have Hr:=G (show R=some 4 by rw[Hy.out,h92];rfl);subst h92;clear Hy;go_enter func253,ntmps253;go_wp2;go_ret;rw[Hr.out];exact⟨rfl,rfl⟩
 by_cases h110:y=110
 ·have Hr:=G (show R=some 4 by rw[Hy.out,h110];rfl);subst h110;clear Hy;go_enter func253,ntmps253;go_wp2;go_ret;rw[Hr.out];exact⟨rfl,rfl⟩
 by_cases h116:y=116
 ·have Hr:=G (show R=some 4 by rw[Hy.out,h116];rfl);subst h116;clear Hy;go_enter func253,ntmps253;go_wp2;go_ret;rw[Hr.out];exact⟨rfl,rfl⟩
 have Hr:=G (show R=none by rw[Hy.out,jJ5 h120,jJ5 (by omega)]);have b120:((y:Int)==120)=false:=jM3 (by omega);have b34:((y:Int)==34)=false:=jM3 (by omega);have b92:((y:Int)==92)=false:=jM3 (by omega);have b110:((y:Int)==110)=false:=jM3 (by omega);have b116:((y:Int)==116)=false:=jM3 (by omega);clear Hy h120 h34 h92 h110 h116;go_enter func253,ntmps253;go_wp2;refine⟨rfl,rfl,?_⟩;rw[Hr.out];exact rfl
end Go.Proofs.YtifbhcfdealfaaaGreatDoor
