/- Facts. No condition. -/
import Derived.Test.YtkdohhmacfoolaaGreatDoorRows
import Derived.Test.YtkdohhmacfoolaaGreatDoorPeAmB
set_option linter.unusedSimpArgs false
set_option linter.unusedVariables false
namespace Go.Proofs.YtkdohhmacfoolaaGreatDoor
open Go.Proofs.Tryz Go Go.AM
theorem sz0:aO prog 0=some 1:=by kernel_rfl
theorem sz1:aO prog 1=some 1:=by kernel_rfl
theorem tb1:Tryz.t1.bytes=8:=rfl
theorem sz2:aO prog 2=some 1:=by kernel_rfl
theorem sz3:aO prog 3=some 1:=by kernel_rfl
theorem in3:Tryz.prog.info? 3=some Tryz.t3:=by kernel_rfl
theorem ts3:Tryz.t3.size=1:=rfl
theorem tb3:Tryz.t3.bytes=8:=rfl
theorem tz3:Tryz.t3.zero=some (Value.int IntKind.i64 0):=rfl
theorem zc3:zeroCells? prog 3=some [.v (Value.int IntKind.i64 0)]:=by kernel_rfl
theorem sz4:aO prog 4=some 1:=by kernel_rfl
theorem in4:Tryz.prog.info? 4=some Tryz.t4:=by kernel_rfl
theorem ts4:Tryz.t4.size=1:=rfl
theorem tb4:Tryz.t4.bytes=1:=rfl
theorem tz4:Tryz.t4.zero=some (Value.bool false):=rfl
theorem zc4:zeroCells? prog 4=some [.v (Value.bool false)]:=by kernel_rfl
theorem sz5:aO prog 5=some 1:=by kernel_rfl
theorem in5:Tryz.prog.info? 5=some Tryz.t5:=by kernel_rfl
theorem ts5:Tryz.t5.size=1:=rfl
theorem tb5:Tryz.t5.bytes=1:=rfl
theorem tz5:Tryz.t5.zero=some (Value.int IntKind.u8 0):=rfl
theorem zc5:zeroCells? prog 5=some [.v (Value.int IntKind.u8 0)]:=by kernel_rfl
theorem sz6:aO prog 6=some 1:=by kernel_rfl
theorem sz7:aO prog 7=some 4:=by kernel_rfl
theorem sz8:aO prog 8=some 4:=by kernel_rfl
theorem sz9:aO prog 9=some 1:=by kernel_rfl
theorem in9:Tryz.prog.info? 9=some Tryz.t9:=by kernel_rfl
theorem ts9:Tryz.t9.size=1:=rfl
theorem tb9:Tryz.t9.bytes=16:=rfl
theorem tz9:Tryz.t9.zero=some (Value.string { data:= #[] }):=rfl
theorem zc9:zeroCells? prog 9=some [.v (Value.string { data:= #[] })]:=by kernel_rfl
theorem cKf:aO prog 10=some 1:=by kernel_rfl
theorem cKg:aO prog 11=some 1:=by kernel_rfl
theorem cKh:aO prog 12=some 1:=by kernel_rfl
theorem cKi:aO prog 13=some 2:=by kernel_rfl
theorem cKj:aO prog 14=some 2:=by kernel_rfl
theorem cKk:aO prog 15=some 1:=by kernel_rfl
theorem cKl:aO prog 16=some 1:=by kernel_rfl
theorem cKm:aO prog 17=some 1:=by kernel_rfl
theorem cKn:aO prog 18=some 1:=by kernel_rfl
theorem cKo:aO prog 19=some 1:=by kernel_rfl
theorem cKp:aO prog 20=some 1:=by kernel_rfl
theorem cKq:aO prog 21=some 1:=by kernel_rfl
theorem cKr:aO prog 22=some 3:=by kernel_rfl
theorem bYt:aO prog 23=some 3:=by kernel_rfl
theorem cIq:zeroCells? prog 23=some [.v (Value.int IntKind.i64 0),.v (Value.int IntKind.i64 0),.v (Value.int IntKind.i64 0)]:=by kernel_rfl
theorem cKs:aO prog 24=some 1:=by kernel_rfl
theorem cAk:Tryz.prog.info? 24=some Tryz.t24:=by kernel_rfl
theorem cMq:Tryz.t24.size=1:=rfl
theorem cI6:Tryz.t24.bytes=24:=rfl
theorem cIg:Tryz.t24.zero=some (Value.slice none 0 0):=rfl
theorem cKt:aO prog 25=some 1:=by kernel_rfl
theorem cKu:aO prog 26=some 1:=by kernel_rfl
theorem cGh:aO prog 27=some 1:=by kernel_rfl
theorem bVh:aO prog 28=some 1:=by kernel_rfl
theorem bZ9:zeroCells? prog 28=some [.v (Value.slice none 0 0)]:=by kernel_rfl
theorem cKv:aO prog 29=some 5:=by kernel_rfl
theorem cKw:aO prog 30=some 5:=by kernel_rfl
theorem cMx:zeroCells? prog 30=some [.v (Value.int IntKind.i64 0),.v (Value.int IntKind.i64 0),.v (Value.int IntKind.i64 0),.v (Value.slice none 0 0),.v (Value.slice none 0 0)]:=by kernel_rfl
theorem cHh:aO prog 31=some 1:=by kernel_rfl
theorem cKx:aO prog 32=some 6:=by kernel_rfl
theorem bM6:aO prog 33=some 6:=by kernel_rfl
theorem bZa:zeroCells? prog 33=some [.v (Value.int IntKind.i64 0),.v (Value.int IntKind.i64 0),.v (Value.int IntKind.i64 0),.v (Value.slice none 0 0),.v (Value.slice none 0 0),.v (Value.slice none 0 0)]:=by kernel_rfl
theorem cKy:aO prog 34=some 2:=by kernel_rfl
theorem cKz:aO prog 35=some 2:=by kernel_rfl
theorem cMy:zeroCells? prog 35=some [.v (Value.slice none 0 0),.v (Value.int IntKind.i64 0)]:=by kernel_rfl
theorem cL0:aO prog 36=some 1:=by kernel_rfl
theorem cAm:Tryz.prog.info? 36=some Tryz.t36:=by kernel_rfl
theorem cMr:Tryz.t36.size=1:=rfl
theorem cI7:Tryz.t36.bytes=8:=rfl
theorem cIi:Tryz.t36.zero=some (Value.int IntKind.i64 0):=rfl
theorem cL1:aO prog 37=some 1:=by kernel_rfl
theorem cL2:aO prog 38=some 1:=by kernel_rfl
theorem cL3:aO prog 39=some 1:=by kernel_rfl
theorem aNy:aO prog 40=some 1:=by kernel_rfl
theorem bXn:Tryz.prog.info? 40=some Tryz.t40:=by kernel_rfl
theorem bYz:Tryz.t40.size=1:=rfl
theorem bM7:Tryz.t40.bytes=8:=rfl
theorem bZ1:Tryz.t40.zero=some (Value.int IntKind.u64 0):=rfl
theorem bVq:zeroCells? prog 40=some [.v (Value.int IntKind.u64 0)]:=by kernel_rfl
theorem cL4:aO prog 41=some 4:=by kernel_rfl
theorem cL5:aO prog 42=some 4:=by kernel_rfl
theorem cMz:zeroCells? prog 42=some [.v (Value.int IntKind.i64 0),.v (Value.int IntKind.u64 0),.v (Value.int IntKind.u64 0),.v (Value.string { data:= #[] })]:=by kernel_rfl
theorem cL6:aO prog 43=some 1:=by kernel_rfl
theorem cL7:aO prog 44=some 1:=by kernel_rfl
theorem cL8:aO prog 45=some 1:=by kernel_rfl
theorem cL9:aO prog 46=some 1:=by kernel_rfl
theorem cLa:aO prog 47=some 1:=by kernel_rfl
theorem cLb:aO prog 48=some 1:=by kernel_rfl
theorem cLc:aO prog 49=some 1:=by kernel_rfl
theorem cLd:aO prog 50=some 1:=by kernel_rfl
theorem cLe:aO prog 51=some 1:=by kernel_rfl
theorem cLf:aO prog 52=some 1:=by kernel_rfl
theorem cLg:aO prog 53=some 1:=by kernel_rfl
theorem cLh:aO prog 54=some 1:=by kernel_rfl
theorem cLi:aO prog 55=some 1:=by kernel_rfl
theorem bCi:aO prog 56=some 1:=by kernel_rfl
theorem cJ5:Tryz.prog.info? 56=some Tryz.t56:=by kernel_rfl
theorem cMs:Tryz.t56.size=1:=rfl
theorem cMp:Tryz.t56.bytes=24:=rfl
theorem cN0:zeroCells? prog 56=some [.v (Value.slice none 0 0)]:=by kernel_rfl
theorem cLj:aO prog 57=some 1:=by kernel_rfl
theorem cLk:aO prog 58=some 1:=by kernel_rfl
theorem cLl:aO prog 59=some 1:=by kernel_rfl
theorem cLm:aO prog 60=some 3:=by kernel_rfl
theorem aNz:aO prog 61=some 3:=by kernel_rfl
theorem bOr:Tryz.prog.info? 61=some Tryz.t61:=by kernel_rfl
theorem bR9:Tryz.t61.size=3:=rfl
theorem aV7:Tryz.t61.bytes=24:=rfl
theorem bRa:Tryz.t61.zero=some (Value.agg #[Value.int IntKind.i64 0,Value.int IntKind.i64 0,Value.int IntKind.i64 0]):=rfl
theorem aZh:zeroCells? prog 61=some [.v (Value.int IntKind.i64 0),.v (Value.int IntKind.i64 0),.v (Value.int IntKind.i64 0)]:=by kernel_rfl
theorem cLn:aO prog 62=some 1:=by kernel_rfl
theorem cLo:aO prog 63=some 1:=by kernel_rfl
theorem cLp:aO prog 64=some 1:=by kernel_rfl
theorem cLq:aO prog 65=some 1:=by kernel_rfl
theorem cLr:aO prog 66=some 1:=by kernel_rfl
theorem cLs:aO prog 67=some 9:=by kernel_rfl
theorem cLt:aO prog 68=some 9:=by kernel_rfl
theorem cN1:zeroCells? prog 68=some [.v (Value.int IntKind.i64 0),.v (Value.int IntKind.i64 0),.v (Value.int IntKind.i64 0),.v (Value.slice none 0 0),.v (Value.slice none 0 0),.v (Value.slice none 0 0),.v (Value.slice none 0 0),.v (Value.int IntKind.i64 0),.v (Value.bool false)]:=by kernel_rfl
theorem bYu:aO prog 69=some 1:=by kernel_rfl
theorem bXo:Tryz.prog.info? 69=some Tryz.t69:=by kernel_rfl
theorem bZ0:Tryz.t69.size=1:=rfl
theorem bM8:Tryz.t69.bytes=24:=rfl
theorem bZ2:Tryz.t69.zero=some (Value.slice none 0 0):=rfl
theorem bZb:zeroCells? prog 69=some [.v (Value.slice none 0 0)]:=by kernel_rfl
theorem cLu:aO prog 70=some 1:=by kernel_rfl
theorem cLv:aO prog 71=some 1:=by kernel_rfl
theorem cLw:aO prog 72=some 1:=by kernel_rfl
theorem cLx:aO prog 73=some 1:=by kernel_rfl
theorem cLy:aO prog 74=some 1:=by kernel_rfl
theorem cLz:aO prog 75=some 1:=by kernel_rfl
theorem cM0:aO prog 76=some 1:=by kernel_rfl
theorem cM1:aO prog 77=some 1:=by kernel_rfl
theorem cM2:aO prog 78=some 1:=by kernel_rfl
theorem cM3:aO prog 79=some 1:=by kernel_rfl
theorem cM4:aO prog 80=some 1:=by kernel_rfl
theorem cM5:aO prog 81=some 1:=by kernel_rfl
theorem cM6:aO prog 82=some 1:=by kernel_rfl
theorem cM7:aO prog 83=some 1:=by kernel_rfl
theorem cM8:aO prog 84=some 1:=by kernel_rfl
theorem cM9:aO prog 85=some 1:=by kernel_rfl
theorem cMa:aO prog 86=some 1:=by kernel_rfl
theorem cMb:aO prog 87=some 1:=by kernel_rfl
theorem cMc:aO prog 88=some 1:=by kernel_rfl
theorem cMd:aO prog 89=some 1:=by kernel_rfl
theorem cMe:aO prog 90=some 1:=by kernel_rfl
theorem cMf:aO prog 91=some 1:=by kernel_rfl
theorem cMg:aO prog 92=some 1:=by kernel_rfl
theorem cMh:aO prog 93=some 2:=by kernel_rfl
theorem bR0:aO prog 94=some 2:=by kernel_rfl
theorem bSx:Tryz.prog.info? 94=some Tryz.t94:=by kernel_rfl
theorem bVm:Tryz.t94.size=2:=rfl
theorem bCm:Tryz.t94.bytes=16:=rfl
theorem bVo:Tryz.t94.zero=some (Value.agg #[Value.int IntKind.u64 0,Value.int IntKind.u64 0]):=rfl
theorem bRf:zeroCells? prog 94=some [.v (Value.int IntKind.u64 0),.v (Value.int IntKind.u64 0)]:=by kernel_rfl
theorem cMi:aO prog 95=some 2:=by kernel_rfl
theorem bR1:aO prog 96=some 2:=by kernel_rfl
theorem bSy:Tryz.prog.info? 96=some Tryz.t96:=by kernel_rfl
theorem bVn:Tryz.t96.size=2:=rfl
theorem bCn:Tryz.t96.bytes=16:=rfl
theorem bVp:Tryz.t96.zero=some (Value.agg #[Value.bool false,Value.int IntKind.u64 0]):=rfl
theorem bRg:zeroCells? prog 96=some [.v (Value.bool false),.v (Value.int IntKind.u64 0)]:=by kernel_rfl
theorem cMj:aO prog 97=some 1:=by kernel_rfl
theorem cMk:aO prog 98=some 1:=by kernel_rfl
theorem cMl:aO prog 99=some 1:=by kernel_rfl
theorem cBs:aO prog 100=some 1:=by kernel_rfl
theorem cBt:aO prog 101=some 1:=by kernel_rfl
theorem cBu:aO prog 102=some 1:=by kernel_rfl
theorem cBv:aO prog 103=some 1:=by kernel_rfl
theorem cBw:aO prog 104=some 1:=by kernel_rfl
theorem cBx:aO prog 105=some 3:=by kernel_rfl
theorem cBy:aO prog 106=some 3:=by kernel_rfl
theorem cBz:aO prog 107=some 1:=by kernel_rfl
theorem cC0:aO prog 108=some 1:=by kernel_rfl
theorem cC1:aO prog 109=some 1:=by kernel_rfl
theorem cC2:aO prog 110=some 1:=by kernel_rfl
theorem cC3:aO prog 111=some 1:=by kernel_rfl
theorem cC4:aO prog 112=some 1:=by kernel_rfl
theorem cC5:aO prog 113=some 1:=by kernel_rfl
theorem cC6:aO prog 114=some 1:=by kernel_rfl
theorem cC7:aO prog 115=some 1:=by kernel_rfl
theorem cC8:aO prog 116=some 1:=by kernel_rfl
theorem cC9:aO prog 117=some 1:=by kernel_rfl
theorem cCa:aO prog 118=some 1:=by kernel_rfl
theorem cCb:aO prog 119=some 1:=by kernel_rfl
theorem cCc:aO prog 120=some 1:=by kernel_rfl
theorem cCd:aO prog 121=some 1:=by kernel_rfl
theorem cCe:aO prog 122=some 1:=by kernel_rfl
theorem cCf:aO prog 123=some 1:=by kernel_rfl
theorem cCg:aO prog 124=some 6:=by kernel_rfl
theorem cCh:aO prog 125=some 6:=by kernel_rfl
theorem cIl:zeroCells? prog 125=some [.v (Value.int IntKind.i64 0),.v (Value.int IntKind.i64 0),.v (Value.int IntKind.i64 0),.v (Value.slice none 0 0),.v (Value.slice none 0 0),.v (Value.slice none 0 0)]:=by kernel_rfl
theorem cCi:aO prog 126=some 1:=by kernel_rfl
theorem cCj:aO prog 127=some 1:=by kernel_rfl
theorem cCk:aO prog 128=some 1:=by kernel_rfl
theorem cCl:aO prog 129=some 1:=by kernel_rfl
theorem cCm:aO prog 130=some 1:=by kernel_rfl
theorem cCn:aO prog 131=some 1:=by kernel_rfl
theorem cCo:aO prog 132=some 2:=by kernel_rfl
theorem cCp:aO prog 133=some 2:=by kernel_rfl
theorem cCq:aO prog 134=some 1:=by kernel_rfl
theorem cCr:aO prog 135=some 1:=by kernel_rfl
theorem cCs:aO prog 136=some 1:=by kernel_rfl
theorem cCt:aO prog 137=some 1:=by kernel_rfl
theorem cCu:aO prog 138=some 1:=by kernel_rfl
theorem cCv:aO prog 139=some 1:=by kernel_rfl
theorem cCw:aO prog 140=some 1:=by kernel_rfl
theorem cCx:aO prog 141=some 1:=by kernel_rfl
theorem cCy:aO prog 142=some 1:=by kernel_rfl
theorem cCz:aO prog 143=some 1:=by kernel_rfl
theorem cD0:aO prog 144=some 1:=by kernel_rfl
theorem cD1:aO prog 145=some 1:=by kernel_rfl
theorem cD2:aO prog 146=some 1:=by kernel_rfl
theorem cD3:aO prog 147=some 1:=by kernel_rfl
theorem bWw:zeroCells? prog 147=some [.v (Value.pointer none)]:=by kernel_rfl
theorem cD4:aO prog 148=some 1:=by kernel_rfl
theorem cD5:aO prog 149=some 1:=by kernel_rfl
theorem cD6:aO prog 150=some 1:=by kernel_rfl
theorem cD7:aO prog 151=some 1:=by kernel_rfl
theorem cD8:aO prog 152=some 1:=by kernel_rfl
theorem cD9:aO prog 153=some 1:=by kernel_rfl
theorem cDa:aO prog 154=some 1:=by kernel_rfl
theorem cDb:aO prog 155=some 1:=by kernel_rfl
theorem cDc:aO prog 156=some 1:=by kernel_rfl
theorem cDd:aO prog 157=some 1:=by kernel_rfl
theorem bWb:Tryz.prog.info? 157=some Tryz.t157:=by kernel_rfl
theorem cIa:Tryz.t157.size=1:=rfl
theorem bWn:Tryz.t157.bytes=24:=rfl
theorem bWr:Tryz.t157.zero=some (Value.slice none 0 0):=rfl
theorem cDe:aO prog 158=some 1:=by kernel_rfl
theorem cDf:aO prog 159=some 1:=by kernel_rfl
theorem cDg:aO prog 160=some 1:=by kernel_rfl
theorem cDh:aO prog 161=some 1:=by kernel_rfl
theorem cDi:aO prog 162=some 1:=by kernel_rfl
theorem cDj:aO prog 163=some 1:=by kernel_rfl
theorem cDk:aO prog 164=some 1:=by kernel_rfl
theorem cDl:aO prog 165=some 1:=by kernel_rfl
theorem cDm:aO prog 166=some 1:=by kernel_rfl
theorem cDn:aO prog 167=some 1:=by kernel_rfl
theorem cDo:aO prog 168=some 1:=by kernel_rfl
theorem cDp:aO prog 169=some 2:=by kernel_rfl
theorem cDq:aO prog 170=some 2:=by kernel_rfl
theorem cDr:aO prog 171=some 1:=by kernel_rfl
theorem cDs:aO prog 172=some 1:=by kernel_rfl
theorem cDt:aO prog 173=some 1:=by kernel_rfl
theorem cDu:aO prog 174=some 1:=by kernel_rfl
theorem cDv:aO prog 175=some 1:=by kernel_rfl
theorem cDw:aO prog 176=some 1:=by kernel_rfl
theorem cDx:aO prog 177=some 1:=by kernel_rfl
theorem cDy:aO prog 178=some 1:=by kernel_rfl
theorem cDz:aO prog 179=some 1:=by kernel_rfl
theorem cE0:aO prog 180=some 2:=by kernel_rfl
theorem cAi:Tryz.prog.info? 180=some Tryz.t180:=by kernel_rfl
theorem cIb:Tryz.t180.size=2:=rfl
theorem bWo:Tryz.t180.bytes=16:=rfl
theorem cIe:Tryz.t180.zero=some (Value.agg #[Value.int IntKind.u64 0,Value.int IntKind.u64 0]):=rfl
theorem cIm:zeroCells? prog 180=some [.v (Value.int IntKind.u64 0),.v (Value.int IntKind.u64 0)]:=by kernel_rfl
theorem cE1:aO prog 181=some 1:=by kernel_rfl
theorem cE2:aO prog 182=some 1:=by kernel_rfl
theorem cE3:aO prog 183=some 1:=by kernel_rfl
theorem cE4:aO prog 184=some 1:=by kernel_rfl
theorem cE5:aO prog 185=some 1:=by kernel_rfl
theorem cE6:aO prog 186=some 1:=by kernel_rfl
theorem cE7:aO prog 187=some 1:=by kernel_rfl
theorem cE8:aO prog 188=some 1:=by kernel_rfl
theorem cE9:aO prog 189=some 1:=by kernel_rfl
theorem cEa:aO prog 190=some 1:=by kernel_rfl
theorem cEb:aO prog 191=some 1:=by kernel_rfl
theorem cEc:aO prog 192=some 1:=by kernel_rfl
theorem cEd:aO prog 193=some 2:=by kernel_rfl
theorem bHp:aO prog 194=some 2:=by kernel_rfl
theorem cIn:zeroCells? prog 194=some [.v (Value.int IntKind.u64 0),.v (Value.int IntKind.i64 0)]:=by kernel_rfl
theorem cEe:aO prog 195=some 1:=by kernel_rfl
theorem cEf:aO prog 196=some 1:=by kernel_rfl
theorem cEg:aO prog 197=some 1:=by kernel_rfl
theorem cEh:aO prog 198=some 1:=by kernel_rfl
theorem cEi:aO prog 199=some 1:=by kernel_rfl
theorem cEj:aO prog 200=some 1:=by kernel_rfl
theorem cEk:aO prog 201=some 1:=by kernel_rfl
theorem cEl:aO prog 202=some 1:=by kernel_rfl
theorem cEm:aO prog 203=some 1:=by kernel_rfl
theorem cEn:aO prog 204=some 1:=by kernel_rfl
theorem cEo:aO prog 205=some 1:=by kernel_rfl
theorem cEp:aO prog 206=some 1:=by kernel_rfl
theorem cEq:aO prog 207=some 1:=by kernel_rfl
theorem cEr:aO prog 208=some 1:=by kernel_rfl
theorem cEs:aO prog 209=some 1:=by kernel_rfl
theorem cEt:aO prog 210=some 1:=by kernel_rfl
theorem cEu:aO prog 211=some 1:=by kernel_rfl
theorem cEv:aO prog 212=some 1:=by kernel_rfl
theorem cEw:aO prog 213=some 1:=by kernel_rfl
theorem cEx:aO prog 214=some 3:=by kernel_rfl
theorem cEy:aO prog 215=some 3:=by kernel_rfl
theorem cIo:zeroCells? prog 215=some [.v (Value.int IntKind.i64 0),.v (Value.int IntKind.i64 0),.v (Value.slice none 0 0)]:=by kernel_rfl
theorem cEz:aO prog 216=some 1:=by kernel_rfl
theorem cF0:aO prog 217=some 1:=by kernel_rfl
theorem cF1:aO prog 218=some 1:=by kernel_rfl
theorem cF2:aO prog 219=some 1:=by kernel_rfl
theorem cF3:aO prog 220=some 1:=by kernel_rfl
theorem cF4:aO prog 221=some 1:=by kernel_rfl
theorem cF5:aO prog 222=some 1:=by kernel_rfl
theorem cF6:aO prog 223=some 2:=by kernel_rfl
theorem cAj:Tryz.prog.info? 223=some Tryz.t223:=by kernel_rfl
theorem cIc:Tryz.t223.size=2:=rfl
theorem bWp:Tryz.t223.bytes=16:=rfl
theorem cIf:Tryz.t223.zero=some (Value.agg #[Value.bool false,Value.int IntKind.u64 0]):=rfl
theorem cIp:zeroCells? prog 223=some [.v (Value.bool false),.v (Value.int IntKind.u64 0)]:=by kernel_rfl
theorem cF7:aO prog 224=some 1:=by kernel_rfl
theorem cF8:aO prog 225=some 1:=by kernel_rfl
theorem cF9:aO prog 226=some 1:=by kernel_rfl
theorem cFa:aO prog 227=some 1:=by kernel_rfl
theorem cFb:aO prog 228=some 1:=by kernel_rfl
theorem cFc:aO prog 229=some 1:=by kernel_rfl
theorem cFd:aO prog 230=some 1:=by kernel_rfl
theorem cFe:aO prog 231=some 1:=by kernel_rfl
theorem cFf:aO prog 232=some 6:=by kernel_rfl
theorem cFg:aO prog 233=some 6:=by kernel_rfl
theorem cIr:zeroCells? prog 233=some [.v (Value.pointer none),.v (Value.pointer none),.v (Value.int IntKind.u64 0),.v (Value.int IntKind.i64 0),.v (Value.int IntKind.i64 0),.v (Value.int IntKind.i64 0)]:=by kernel_rfl
theorem cFh:aO prog 234=some 1:=by kernel_rfl
theorem cFi:aO prog 235=some 1:=by kernel_rfl
theorem cFj:aO prog 236=some 1:=by kernel_rfl
theorem cFk:aO prog 237=some 1:=by kernel_rfl
theorem cFl:aO prog 238=some 1:=by kernel_rfl
theorem cFm:aO prog 239=some 1:=by kernel_rfl
theorem cFn:aO prog 240=some 1:=by kernel_rfl
theorem cFo:aO prog 241=some 1:=by kernel_rfl
theorem cFp:aO prog 242=some 1:=by kernel_rfl
theorem cFq:aO prog 243=some 1:=by kernel_rfl
theorem cFr:aO prog 244=some 1:=by kernel_rfl
theorem cFs:aO prog 245=some 1:=by kernel_rfl
theorem cFt:aO prog 246=some 1:=by kernel_rfl
theorem cFu:aO prog 247=some 1:=by kernel_rfl
theorem cFv:aO prog 248=some 1:=by kernel_rfl
theorem cFw:aO prog 249=some 1:=by kernel_rfl
theorem cFx:aO prog 250=some 1:=by kernel_rfl
theorem cFy:aO prog 251=some 1:=by kernel_rfl
theorem cFz:aO prog 252=some 1:=by kernel_rfl
theorem cG0:aO prog 253=some 1:=by kernel_rfl
theorem cG1:aO prog 254=some 1:=by kernel_rfl
theorem cG2:aO prog 255=some 1:=by kernel_rfl
theorem cG3:aO prog 256=some 1:=by kernel_rfl
theorem cG4:aO prog 257=some 1:=by kernel_rfl
theorem cG5:aO prog 258=some 1:=by kernel_rfl
theorem cG6:aO prog 259=some 1:=by kernel_rfl
theorem cG7:aO prog 260=some 1:=by kernel_rfl
theorem cG8:aO prog 261=some 24:=by kernel_rfl
theorem cG9:aO prog 262=some 1:=by kernel_rfl
theorem cGa:aO prog 263=some 1:=by kernel_rfl
theorem cGb:aO prog 264=some 1:=by kernel_rfl
theorem cGc:aO prog 265=some 1:=by kernel_rfl
theorem cGd:aO prog 266=some 1:=by kernel_rfl
theorem cGe:aO prog 267=some 1:=by kernel_rfl
theorem cGf:aO prog 268=some 1:=by kernel_rfl
theorem cGg:aO prog 269=some 1:=by kernel_rfl
theorem cGi:aO prog 270=some 1:=by kernel_rfl
theorem cGj:aO prog 271=some 1:=by kernel_rfl
theorem cGk:aO prog 272=some 1:=by kernel_rfl
theorem cGl:aO prog 273=some 1:=by kernel_rfl
theorem cGm:aO prog 274=some 1:=by kernel_rfl
theorem cGn:aO prog 275=some 1:=by kernel_rfl
theorem cGo:aO prog 276=some 1:=by kernel_rfl
theorem bWm:aO prog 277=some 1:=by kernel_rfl
theorem cAl:Tryz.prog.info? 277=some Tryz.t277:=by kernel_rfl
theorem cId:Tryz.t277.size=1:=rfl
theorem bWq:Tryz.t277.bytes=4:=rfl
theorem cIh:Tryz.t277.zero=some (Value.int IntKind.u32 0):=rfl
theorem cIs:zeroCells? prog 277=some [.v (Value.int IntKind.u32 0)]:=by kernel_rfl
theorem cGp:aO prog 278=some 1:=by kernel_rfl
theorem cGq:aO prog 279=some 1:=by kernel_rfl
theorem cGr:aO prog 280=some 1:=by kernel_rfl
theorem cGs:aO prog 281=some 1:=by kernel_rfl
theorem cGt:aO prog 282=some 1:=by kernel_rfl
theorem cGu:aO prog 283=some 1:=by kernel_rfl
theorem cGv:aO prog 284=some 1:=by kernel_rfl
theorem cGw:aO prog 286=some 1:=by kernel_rfl
theorem cGx:aO prog 287=some 1:=by kernel_rfl
theorem cGy:aO prog 288=some 1:=by kernel_rfl
theorem cGz:aO prog 289=some 1:=by kernel_rfl
theorem cH0:aO prog 290=some 1:=by kernel_rfl
theorem cH1:aO prog 291=some 1:=by kernel_rfl
theorem cH2:aO prog 292=some 1:=by kernel_rfl
theorem cH3:aO prog 293=some 1:=by kernel_rfl
theorem cH4:aO prog 295=some 1:=by kernel_rfl
theorem cH5:aO prog 297=some 1:=by kernel_rfl
theorem cH6:aO prog 298=some 20:=by kernel_rfl
theorem cH7:aO prog 299=some 65:=by kernel_rfl
theorem bCh:aO prog 300=some 1:=by kernel_rfl
theorem cIt:zeroCells? prog 300=some [.v (Value.int IntKind.u64 0)]:=by kernel_rfl
theorem cH8:aO prog 301=some 1:=by kernel_rfl
theorem cH9:aO prog 302=some 1:=by kernel_rfl
theorem cHa:aO prog 303=some 1:=by kernel_rfl
theorem cHb:aO prog 304=some 1:=by kernel_rfl
theorem cHc:aO prog 305=some 1:=by kernel_rfl
theorem cHd:aO prog 306=some 1:=by kernel_rfl
theorem cHe:aO prog 307=some 1:=by kernel_rfl
theorem cHf:aO prog 308=some 1:=by kernel_rfl
theorem cHg:aO prog 309=some 1:=by kernel_rfl
theorem cHi:aO prog 310=some 1:=by kernel_rfl
theorem cHj:aO prog 311=some 1:=by kernel_rfl
theorem cHk:aO prog 312=some 1:=by kernel_rfl
theorem cHl:aO prog 313=some 1:=by kernel_rfl
theorem cHm:aO prog 314=some 1:=by kernel_rfl
theorem cHn:aO prog 315=some 1:=by kernel_rfl
theorem cHo:aO prog 316=some 32:=by kernel_rfl
theorem cHp:aO prog 317=some 64:=by kernel_rfl
theorem cHq:aO prog 318=some 1:=by kernel_rfl
theorem cHr:aO prog 319=some 4:=by kernel_rfl
theorem cHs:aO prog 320=some 4:=by kernel_rfl
theorem cHt:aO prog 321=some 0:=by kernel_rfl
theorem cHu:aO prog 322=some 0:=by kernel_rfl
theorem cHv:aO prog 323=some 0:=by kernel_rfl
theorem cHw:aO prog 324=some 1:=by kernel_rfl
theorem cHx:aO prog 325=some 1:=by kernel_rfl
theorem cHy:aO prog 326=some 1:=by kernel_rfl
theorem cHz:aO prog 327=some 1:=by kernel_rfl
theorem cI0:aO prog 328=some 1:=by kernel_rfl
theorem cI1:aO prog 329=some 1:=by kernel_rfl
theorem cI2:aO prog 330=some 11:=by kernel_rfl
theorem cI3:aO prog 331=some 11:=by kernel_rfl
theorem cI4:aO prog 332=some 1:=by kernel_rfl
theorem cI5:aO prog 333=some 1:=by kernel_rfl
abbrev FbP(k:Nat):Prop:=(Program.funcs prog)[k]?.any (fun fn=>fn.body.isSome&&fn.name != "runtime.NumGoroutine")=true
theorem fbT{k:Nat}{f}(h:(Program.funcs prog)[k]? =some f)(h':(f.body.isSome&&f.name != "runtime.NumGoroutine")=true):FbP k:=by
 show (Program.funcs prog)[k]?.any _=true;rw [h];exact h'
theorem cJ4:FbP 32:=fbT func32 (by kernel_rfl)
theorem aUg:FbP 42:=fbT func42 (by kernel_rfl)
theorem aXc:FbP 91:=fbT func91 (by kernel_rfl)
theorem bZt:FbP 103:=fbT func103 (by kernel_rfl)
theorem bVz:FbP 104:=fbT func104 (by kernel_rfl)
theorem bW0:FbP 105:=fbT func105 (by kernel_rfl)
theorem bW1:FbP 107:=fbT func107 (by kernel_rfl)
theorem bZu:FbP 115:=fbT func115 (by kernel_rfl)
theorem bZv:FbP 121:=fbT func121 (by kernel_rfl)
theorem bZw:FbP 123:=fbT func123 (by kernel_rfl)
theorem bZx:FbP 127:=fbT func127 (by kernel_rfl)
theorem bZy:FbP 128:=fbT func128 (by kernel_rfl)
theorem bW2:FbP 129:=fbT func129 (by kernel_rfl)
theorem bW3:FbP 153:=fbT func153 (by kernel_rfl)
theorem bO3:FbP 155:=fbT func155 (by kernel_rfl)
theorem bW4:FbP 156:=fbT func156 (by kernel_rfl)
theorem bZz:FbP 157:=fbT func157 (by kernel_rfl)
theorem cA0:FbP 158:=fbT func158 (by kernel_rfl)
theorem bO4:FbP 159:=fbT func159 (by kernel_rfl)
theorem cA1:FbP 160:=fbT func160 (by kernel_rfl)
theorem cA2:FbP 172:=fbT func172 (by kernel_rfl)
theorem bGp:FbP 191:=fbT func191 (by kernel_rfl)
theorem bW5:FbP 192:=fbT func192 (by kernel_rfl)
theorem cA3:FbP 193:=fbT func193 (by kernel_rfl)
theorem cA4:FbP 194:=fbT func194 (by kernel_rfl)
theorem cA5:FbP 195:=fbT func195 (by kernel_rfl)
theorem cA6:FbP 196:=fbT func196 (by kernel_rfl)
theorem cA7:FbP 197:=fbT func197 (by kernel_rfl)
theorem cA8:FbP 198:=fbT func198 (by kernel_rfl)
theorem bW6:FbP 199:=fbT func199 (by kernel_rfl)
theorem cA9:FbP 200:=fbT func200 (by kernel_rfl)
theorem cAa:FbP 201:=fbT func201 (by kernel_rfl)
theorem cAb:FbP 218:=fbT func218 (by kernel_rfl)
theorem cAc:FbP 222:=fbT func222 (by kernel_rfl)
theorem cAd:FbP 223:=fbT func223 (by kernel_rfl)
theorem cAe:FbP 228:=fbT func228 (by kernel_rfl)
theorem bGq:FbP 236:=fbT func236 (by kernel_rfl)
theorem bW7:FbP 237:=fbT func237 (by kernel_rfl)
theorem cAf:FbP 239:=fbT func239 (by kernel_rfl)
theorem cAg:FbP 240:=fbT func240 (by kernel_rfl)
theorem bO5:FbP 241:=fbT func241 (by kernel_rfl)
theorem bW8:FbP 242:=fbT func242 (by kernel_rfl)
theorem bO6:FbP 255:=fbT func255 (by kernel_rfl)
theorem mix:Tryz.prog.follows .mixedOrders=true:=by kernel_rfl
@[go_sem] theorem mi3(H:aG)(ρ:Operand→AV)(x:Operand):bK prog H ρ (.makeInterface 3 x)=some (.ifc 3 (ρ x)):=by simp only [bK,underlying3]
@[go_sem] theorem mi4(H:aG)(ρ:Operand→AV)(x:Operand):bK prog H ρ (.makeInterface 4 x)=some (.ifc 4 (ρ x)):=by simp only [bK,underlying4]
@[go_sem] theorem ln9(s:ByteArray):bF prog .len [9] [.v (.string s)]=some (.v (.int .i64 s.size)):=aAb underlying9
@[go_sem] theorem mi9(H:aG)(ρ:Operand→AV)(x:Operand):bK prog H ρ (.makeInterface 9 x)=some (.ifc 9 (ρ x)):=by simp only [bK,underlying9]
@[go_sem] theorem cJ7(s:ByteArray):bF prog .len [10] [.v (.string s)]=some (.v (.int .i64 s.size)):=aAb underlying10
@[go_sem] theorem cJ8(s:ByteArray):bF prog .len [11] [.v (.string s)]=some (.v (.int .i64 s.size)):=aAb underlying11
theorem cJ9(xs:List AV)(n:Nat)(f:Bool):bF prog .len [24] [.sl xs n f]=some (.v (.int .i64 n)):=dD underlying24
theorem cJj(j o n:Nat):bF prog .len [24] [.own j o n]=some (.v (.int .i64 n)):=cZ underlying24
theorem cJu(n c:Nat):bF prog .len [24] [.v (.slice none n c)]=some (.v (.int .i64 n)):=cY underlying24
attribute [go_sem] cJ9 cJj cJu
@[go_sem] theorem cK6(H:aG)(ρ:Operand→AV)(x:Operand):bK prog H ρ (.makeInterface 24 x)=some (.ifc 24 (ρ x)):=by simp only [bK,underlying24]
theorem cJa(xs:List AV)(n:Nat)(f:Bool):bF prog .len [25] [.sl xs n f]=some (.v (.int .i64 n)):=dD underlying25
theorem cJk(j o n:Nat):bF prog .len [25] [.own j o n]=some (.v (.int .i64 n)):=cZ underlying25
theorem cJv(n c:Nat):bF prog .len [25] [.v (.slice none n c)]=some (.v (.int .i64 n)):=cY underlying25
attribute [go_sem] cJa cJk cJv
theorem cJb(xs:List AV)(n:Nat)(f:Bool):bF prog .len [27] [.sl xs n f]=some (.v (.int .i64 n)):=dD underlying27
theorem cJl(j o n:Nat):bF prog .len [27] [.own j o n]=some (.v (.int .i64 n)):=cZ underlying27
theorem cJw(n c:Nat):bF prog .len [27] [.v (.slice none n c)]=some (.v (.int .i64 n)):=cY underlying27
attribute [go_sem] cJb cJl cJw
theorem cJc(xs:List AV)(n:Nat)(f:Bool):bF prog .len [28] [.sl xs n f]=some (.v (.int .i64 n)):=dD underlying28
theorem cJm(j o n:Nat):bF prog .len [28] [.own j o n]=some (.v (.int .i64 n)):=cZ underlying28
theorem cJx(n c:Nat):bF prog .len [28] [.v (.slice none n c)]=some (.v (.int .i64 n)):=cY underlying28
attribute [go_sem] cJc cJm cJx
theorem cJd(xs:List AV)(n:Nat)(f:Bool):bF prog .len [31] [.sl xs n f]=some (.v (.int .i64 n)):=dD underlying31
theorem cJn(j o n:Nat):bF prog .len [31] [.own j o n]=some (.v (.int .i64 n)):=cZ underlying31
theorem cJy(n c:Nat):bF prog .len [31] [.v (.slice none n c)]=some (.v (.int .i64 n)):=cY underlying31
attribute [go_sem] cJd cJn cJy
@[go_sem] theorem cK7(H:aG)(ρ:Operand→AV)(x:Operand):bK prog H ρ (.makeInterface 36 x)=some (.ifc 36 (ρ x)):=by simp only [bK,underlying36]
theorem cJe(xs:List AV)(n:Nat)(f:Bool):bF prog .len [53] [.sl xs n f]=some (.v (.int .i64 n)):=dD underlying53
theorem cJo(j o n:Nat):bF prog .len [53] [.own j o n]=some (.v (.int .i64 n)):=cZ underlying53
theorem cJz(n c:Nat):bF prog .len [53] [.v (.slice none n c)]=some (.v (.int .i64 n)):=cY underlying53
attribute [go_sem] cJe cJo cJz
theorem cJf(xs:List AV)(n:Nat)(f:Bool):bF prog .len [56] [.sl xs n f]=some (.v (.int .i64 n)):=dD underlying56
theorem cJp(j o n:Nat):bF prog .len [56] [.own j o n]=some (.v (.int .i64 n)):=cZ underlying56
theorem cK0(n c:Nat):bF prog .len [56] [.v (.slice none n c)]=some (.v (.int .i64 n)):=cY underlying56
attribute [go_sem] cJf cJp cK0
theorem cJg(xs:List AV)(n:Nat)(f:Bool):bF prog .len [65] [.sl xs n f]=some (.v (.int .i64 n)):=dD underlying65
theorem cJq(j o n:Nat):bF prog .len [65] [.own j o n]=some (.v (.int .i64 n)):=cZ underlying65
theorem cK1(n c:Nat):bF prog .len [65] [.v (.slice none n c)]=some (.v (.int .i64 n)):=cY underlying65
attribute [go_sem] cJg cJq cK1
theorem cJh(xs:List AV)(n:Nat)(f:Bool):bF prog .len [69] [.sl xs n f]=some (.v (.int .i64 n)):=dD underlying69
theorem cJr(j o n:Nat):bF prog .len [69] [.own j o n]=some (.v (.int .i64 n)):=cZ underlying69
theorem cK2(n c:Nat):bF prog .len [69] [.v (.slice none n c)]=some (.v (.int .i64 n)):=cY underlying69
attribute [go_sem] cJh cJr cK2
theorem cJi(xs:List AV)(n:Nat)(f:Bool):bF prog .len [91] [.sl xs n f]=some (.v (.int .i64 n)):=dD underlying91
theorem cJs(j o n:Nat):bF prog .len [91] [.own j o n]=some (.v (.int .i64 n)):=cZ underlying91
theorem cK3(n c:Nat):bF prog .len [91] [.v (.slice none n c)]=some (.v (.int .i64 n)):=cY underlying91
attribute [go_sem] cJi cJs cK3
theorem cAp(xs:List AV)(n:Nat)(f:Bool):bF prog .len [100] [.sl xs n f]=some (.v (.int .i64 n)):=dD underlying100
theorem cAx(j o n:Nat):bF prog .len [100] [.own j o n]=some (.v (.int .i64 n)):=cZ underlying100
theorem cB5(n c:Nat):bF prog .len [100] [.v (.slice none n c)]=some (.v (.int .i64 n)):=cY underlying100
attribute [go_sem] cAp cAx cB5
theorem cAq(xs:List AV)(n:Nat)(f:Bool):bF prog .len [123] [.sl xs n f]=some (.v (.int .i64 n)):=dD underlying123
theorem cAy(j o n:Nat):bF prog .len [123] [.own j o n]=some (.v (.int .i64 n)):=cZ underlying123
theorem cB6(n c:Nat):bF prog .len [123] [.v (.slice none n c)]=some (.v (.int .i64 n)):=cY underlying123
attribute [go_sem] cAq cAy cB6
theorem cAr(xs:List AV)(n:Nat)(f:Bool):bF prog .len [157] [.sl xs n f]=some (.v (.int .i64 n)):=dD underlying157
theorem cAz(j o n:Nat):bF prog .len [157] [.own j o n]=some (.v (.int .i64 n)):=cZ underlying157
theorem cB7(n c:Nat):bF prog .len [157] [.v (.slice none n c)]=some (.v (.int .i64 n)):=cY underlying157
attribute [go_sem] cAr cAz cB7
@[go_sem] theorem cBd(H:aG)(ρ:Operand→AV)(x:Operand):bK prog H ρ (.makeInterface 157 x)=some (.ifc 157 (ρ x)):=by simp only [bK,underlying157]
theorem cAs(xs:List AV)(n:Nat)(f:Bool):bF prog .len [249] [.sl xs n f]=some (.v (.int .i64 n)):=dD underlying249
theorem cB0(j o n:Nat):bF prog .len [249] [.own j o n]=some (.v (.int .i64 n)):=cZ underlying249
theorem cB8(n c:Nat):bF prog .len [249] [.v (.slice none n c)]=some (.v (.int .i64 n)):=cY underlying249
attribute [go_sem] cAs cB0 cB8
theorem cAt(xs:List AV)(n:Nat)(f:Bool):bF prog .len [253] [.sl xs n f]=some (.v (.int .i64 n)):=dD underlying253
theorem cB1(j o n:Nat):bF prog .len [253] [.own j o n]=some (.v (.int .i64 n)):=cZ underlying253
theorem cB9(n c:Nat):bF prog .len [253] [.v (.slice none n c)]=some (.v (.int .i64 n)):=cY underlying253
attribute [go_sem] cAt cB1 cB9
theorem cAu(xs:List AV)(n:Nat)(f:Bool):bF prog .len [267] [.sl xs n f]=some (.v (.int .i64 n)):=dD underlying267
theorem cB2(j o n:Nat):bF prog .len [267] [.own j o n]=some (.v (.int .i64 n)):=cZ underlying267
theorem cBa(n c:Nat):bF prog .len [267] [.v (.slice none n c)]=some (.v (.int .i64 n)):=cY underlying267
attribute [go_sem] cAu cB2 cBa
theorem cAv(xs:List AV)(n:Nat)(f:Bool):bF prog .len [284] [.sl xs n f]=some (.v (.int .i64 n)):=dD underlying284
theorem cB3(j o n:Nat):bF prog .len [284] [.own j o n]=some (.v (.int .i64 n)):=cZ underlying284
theorem cBb(n c:Nat):bF prog .len [284] [.v (.slice none n c)]=some (.v (.int .i64 n)):=cY underlying284
attribute [go_sem] cAv cB3 cBb
theorem cAw(xs:List AV)(n:Nat)(f:Bool):bF prog .len [310] [.sl xs n f]=some (.v (.int .i64 n)):=dD underlying310
theorem cB4(j o n:Nat):bF prog .len [310] [.own j o n]=some (.v (.int .i64 n)):=cZ underlying310
theorem cBc(n c:Nat):bF prog .len [310] [.v (.slice none n c)]=some (.v (.int .i64 n)):=cY underlying310
attribute [go_sem] cAw cB4 cBc
attribute [go_sem] underlying0 sz0 underlying1 sz1 underlying2 sz2 underlying3 sz3 underlying4 sz4 underlying5 sz5 underlying6 sz6 underlying7 sz7 underlying8 sz8 underlying9 sz9 underlying10 cKf underlying11 cKg underlying12 cKh underlying13 cKi underlying14 cKj underlying15 cKk underlying16 cKl underlying17 cKm underlying18 cKn underlying19 cKo underlying20 cKp underlying21 cKq underlying22 cKr underlying23 bYt underlying24 cKs underlying25 cKt underlying26 cKu underlying27 cGh underlying28 bVh underlying29 cKv underlying30 cKw underlying31 cHh underlying32 cKx underlying33 bM6 underlying34 cKy underlying35 cKz underlying36 cL0 underlying37 cL1 underlying38 cL2 underlying39 cL3 underlying40 aNy underlying41 cL4 underlying42 cL5 underlying43 cL6 underlying44 cL7 underlying45 cL8 underlying46 cL9 underlying47 cLa underlying48 cLb underlying49 cLc underlying50 cLd underlying51 cLe underlying52 cLf underlying53 cLg underlying54 cLh underlying55 cLi underlying56 bCi underlying57 cLj underlying58 cLk underlying59 cLl underlying60 cLm underlying61 aNz underlying62 cLn underlying63 cLo underlying64 cLp underlying65 cLq underlying66 cLr underlying67 cLs underlying68 cLt underlying69 bYu underlying70 cLu underlying71 cLv underlying72 cLw underlying73 cLx underlying74 cLy underlying75 cLz underlying76 cM0 underlying77 cM1 underlying78 cM2 underlying79 cM3 underlying80 cM4 underlying81 cM5 underlying82 cM6 underlying83 cM7 underlying84 cM8 underlying85 cM9 underlying86 cMa underlying87 cMb underlying88 cMc underlying89 cMd underlying90 cMe underlying91 cMf underlying92 cMg underlying93 cMh underlying94 bR0 underlying95 cMi underlying96 bR1 underlying97 cMj underlying98 cMk underlying99 cMl underlying100 cBs underlying101 cBt underlying102 cBu underlying103 cBv underlying104 cBw underlying105 cBx underlying106 cBy underlying107 cBz underlying108 cC0 underlying109 cC1 underlying110 cC2 underlying111 cC3 underlying112 cC4 underlying113 cC5 underlying114 cC6 underlying115 cC7 underlying116 cC8 underlying117 cC9 underlying118 cCa underlying119 cCb underlying120 cCc underlying121 cCd underlying122 cCe underlying123 cCf underlying124 cCg underlying125 cCh underlying126 cCi underlying127 cCj underlying128 cCk underlying129 cCl underlying130 cCm underlying131 cCn underlying132 cCo underlying133 cCp underlying134 cCq underlying135 cCr underlying136 cCs underlying137 cCt underlying138 cCu underlying139 cCv underlying140 cCw underlying141 cCx underlying142 cCy underlying143 cCz underlying144 cD0 underlying145 cD1 underlying146 cD2 underlying147 cD3 underlying148 cD4 underlying149 cD5 underlying150 cD6 underlying151 cD7 underlying152 cD8 underlying153 cD9 underlying154 cDa underlying155 cDb underlying156 cDc underlying157 cDd underlying158 cDe underlying159 cDf underlying160 cDg underlying161 cDh underlying162 cDi underlying163 cDj underlying164 cDk underlying165 cDl underlying166 cDm underlying167 cDn underlying168 cDo underlying169 cDp underlying170 cDq underlying171 cDr underlying172 cDs underlying173 cDt underlying174 cDu underlying175 cDv underlying176 cDw underlying177 cDx underlying178 cDy underlying179 cDz underlying180 cE0 underlying181 cE1 underlying182 cE2 underlying183 cE3 underlying184 cE4 underlying185 cE5 underlying186 cE6 underlying187 cE7 underlying188 cE8 underlying189 cE9 underlying190 cEa underlying191 cEb underlying192 cEc underlying193 cEd underlying194 bHp underlying195 cEe underlying196 cEf underlying197 cEg underlying198 cEh underlying199 cEi underlying200 cEj underlying201 cEk underlying202 cEl underlying203 cEm underlying204 cEn underlying205 cEo underlying206 cEp underlying207 cEq underlying208 cEr underlying209 cEs underlying210 cEt underlying211 cEu underlying212 cEv underlying213 cEw underlying214 cEx underlying215 cEy underlying216 cEz underlying217 cF0 underlying218 cF1 underlying219 cF2 underlying220 cF3 underlying221 cF4 underlying222 cF5 underlying223 cF6 underlying224 cF7 underlying225 cF8 underlying226 cF9 underlying227 cFa underlying228 cFb underlying229 cFc underlying230 cFd underlying231 cFe underlying232 cFf underlying233 cFg underlying234 cFh underlying235 cFi underlying236 cFj underlying237 cFk underlying238 cFl underlying239 cFm underlying240 cFn underlying241 cFo underlying242 cFp underlying243 cFq underlying244 cFr underlying245 cFs underlying246 cFt underlying247 cFu underlying248 cFv underlying249 cFw underlying250 cFx underlying251 cFy underlying252 cFz underlying253 cG0 underlying254 cG1 underlying255 cG2 underlying256 cG3 underlying257 cG4 underlying258 cG5 underlying259 cG6 underlying260 cG7 underlying261 cG8 underlying262 cG9 underlying263 cGa underlying264 cGb underlying265 cGc underlying266 cGd underlying267 cGe underlying268 cGf underlying269 cGg underlying270 cGi underlying271 cGj underlying272 cGk underlying273 cGl underlying274 cGm underlying275 cGn underlying276 cGo underlying277 bWm underlying278 cGp underlying279 cGq underlying280 cGr underlying281 cGs underlying282 cGt underlying283 cGu underlying284 cGv underlying286 cGw underlying287 cGx underlying288 cGy underlying289 cGz underlying290 cH0 underlying291 cH1 underlying292 cH2 underlying293 cH3 underlying295 cH4 underlying297 cH5 underlying298 cH6 underlying299 cH7 underlying300 bCh underlying301 cH8 underlying302 cH9 underlying303 cHa underlying304 cHb underlying305 cHc underlying306 cHd underlying307 cHe underlying308 cHf underlying309 cHg underlying310 cHi underlying311 cHj underlying312 cHk underlying313 cHl underlying314 cHm underlying315 cHn underlying316 cHo underlying317 cHp underlying318 cHq underlying319 cHr underlying320 cHs underlying321 cHt underlying322 cHu underlying323 cHv underlying324 cHw underlying325 cHx underlying326 cHy underlying327 cHz underlying328 cI0 underlying329 cI1 underlying330 cI2 underlying331 cI3 underlying332 cI4 underlying333 cI5
end Go.Proofs.YtkdohhmacfoolaaGreatDoor
